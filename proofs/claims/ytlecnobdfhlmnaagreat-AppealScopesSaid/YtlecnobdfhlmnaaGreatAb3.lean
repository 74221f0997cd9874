/- Calls: arguments handed over, results taken back. -/
import Derived.Test.YtlecnobdfhlmnaaGreatAb2
import Derived.MapKept
import Derived.WideKeyRuns
set_option linter.unusedSimpArgs false
set_option linter.unusedVariables false
set_option linter.unusedSectionVars false
noncomputable section
namespace Go.Ab
open Go.RowKit
variable[Dr]
def Dm(m:Mem):Nat->Prop:=λb=>(look m b).isSome=true
def noK:Kap:=λ_=>none
def noD:Nat->Prop:=λ_=>False
abbrev EntC(S:Nat->Prop)(w:World)(kb:Option (Nat×Nat))(ent:Ent):Prop:=EntAt S noK noD w kb ent
def RRel(S:Nat->Prop)(κ:Kap)(D:Nat->Prop)(B:Nat->Prop)(w:World)(r:AV)(x:Value):Prop:=
 match r with
 |.row b z off n=>VRel S κ D w (.row b z off n) x
 |.loc b z i o=>VRel S κ D w (.loc b z i o) x
 |.new z e es=>0<z/\((x=.slice none 0 0/\es=[])\/∃g c,B g/\x=.slice (some ⟨g,0,none⟩) es.length c/\EntC S w (some (g,c)) { z,e,es,box:=false })
 |.newm e es=>∃g c,B g/\x=.map (some g)/\EntC S w (some (g,c)) { z:=0,e,es,box:=false }
 |.newp z e cs=>∃g c,B g/\x=.pointer (some ⟨g,0,none⟩)/\EntC S w (some (g,c)) { z,e,es:=[cs],box:=true }
 |r=>CRel S w r x
def Left(S:Nat->Prop)(κ:Kap)(ms ms':Mem)(r:AV)(w:World)(e:Ending)(w':World):Prop:=
 ∃(x:Value) (S':Nat->Prop) (κ':Kap),e=.returned x/\w'.os=w.os/\w'.tape=w.tape/\OutD w w'/\w.heap.size<=w'.heap.size/\(∀g,g<w.heap.size->(∀b c,Dm ms b->κ b≠some (g,c))->w'.heap[g]?=w.heap[g]?)/\(∀g,S g->S' g)/\(∀g,S' g->S g\/Mine w κ (Dm ms) g)/\(∀g,S' g->g<w'.heap.size)/\(∀b,1000<=b->κ' b=κ b)/\(∀b g c,b<1000->Dm ms' b->κ' b=some (g,c)->Mine w κ (Dm ms) g)/\(∀b b' g c c',Dm ms' b->Dm ms' b'->κ' b=some (g,c)->κ' b'=some (g,c')->b=b')/\(∀b ent,look ms' b=some ent->Dm ms b/\EntAt S' κ' (Dm ms') w' (κ' b) ent)/\RRel S' κ (Dm ms) (Mine w κ (Dm ms)) w' r x
def CallOK(P:Program)(call:zcv):Prop:=
 ∀f args ms r ms',call f args ms=some (r,ms')->enters P f=true/\∀(w:World) (S:Nat->Prop) (κ:Kap) (vals:Array Value),vals.size=args.length->(∀g,S g->g<w.heap.size)->(∀(k:Nat) (a:AV) (x:Value),args[k]?=some a->vals[k]?=some x->VRel S κ (Dm ms) w a x)->(∀b ent,look ms b=some ent->EntAt S κ (Dm ms) w (κ b) ent)->(∀b b' g c c',Dm ms b->Dm ms b'->κ b=some (g,c)->κ b'=some (g,c')->b=b')->Calls P f vals w (Left S κ ms ms' r w)
theorem zmU:∀{m:Mem} {b:Nat} {ent:Ent},look m b=some ent->(b,ent)∈m
 |[],b,ent,h=>by simp[look]at h
 |(j,e)::r,b,ent,h=>by
   simp only[look]at h;split at h
   ·simp_all
   ·exact zc7 _ (zmU h)
theorem zi5:∀{m:Mem} {b:Nat},b∈ids m->(look m b).isSome=true
 |[],b,h=>by simp[ids]at h
 |(j,e)::r,b,h=>by
   simp only[look];split
   ·rfl
   · rename_i hne;simp[ids]at h;rcases h with h|⟨a,h⟩
     ·exact absurd h hne
     ·exact zi5 (by simp[ids];exact⟨a,h⟩)
section
variable{S:Nat->Prop}{κ:Kap}{D:Nat->Prop}{w:World}{L:Nat->Option Ent}
def Num(k m b:Nat):Prop:=1000+k<=m\/(950+k<=m/\m<1000/\b<1000)
theorem zGq{wr:List Nat}(hL:∀b ent,L b=some ent->EntAt S κ D w (κ b) ent):∀(args:List AV) (k:Nat) (as:List AV) (ms:Mem) (bk:List (Nat×Nat)) (fz:List Nat),zeX L wr k args=some (as,ms,bk,fz)->∀vals:List Value,vals.length=args.length->(∀(j:Nat) (a:AV) (x:Value),args[j]?=some a->vals[j]?=some x->VRel S κ D w a x)->as.length=args.length/\(∀b∈fz,D b)/\(∀p∈bk,D p.1/\Num k p.2 p.1)/\(bk.map (·.1)).Nodup/\(bk.map (·.2)).Nodup/\bk.map (·.2)=ms.map (·.1)/\(∀p∈ms,∃b,(b,p.1)∈bk/\L b=some p.2/\(p.2.box=true->∀cs∈p.2.es,∀a∈cs,a.isC 4=true))/\∀(S':Nat->Prop) (κ':Kap) (D':Nat->Prop),(∀g,S g->S' g)->(∀b∈fz,∀g c,κ b=some (g,c)->S' g)->(∀p∈bk,D' p.2/\κ' p.2=κ p.1)->∀(j:Nat) (a:AV) (x:Value),as[j]?=some a->vals[j]?=some x->VRel S' κ' D' w a x:=by
 intro args
 induction args with
 |nil =>
   intro k as ms bk fz h vals _ _;simp[zeX]at h
   simp_all
 |cons a r ih =>
   intro k as ms bk fz h vals hvl hv
   cases vals with
   |nil=>simp at hvl
   |cons x vals =>
     simp only[zeX]at h
     cases hr:zeX L wr (k+1) r with
     |none=>simp[hr]at h
     |some q =>
       obtain⟨as0,ms0,bk0,fz0⟩:=q;simp only[hr]at h;have ihr:=ih (k+1) as0 ms0 bk0 fz0 hr vals (by simpa using hvl) (λj a x hj hx=>hv (j+1) a x (by simpa using hj) (by simpa using hx));obtain⟨i1,i2,i3,i4,i5,i6,i7,i8⟩:=ihr;have hax:=hv 0 a x rfl rfl
       have fresh:∀m,m=1000+k\/(m=950+k/\k<50)->m ∉ bk0.map (·.2):=by intro m hmk hm;simp at hm;obtain⟨b,hb⟩:=hm;have:=(i3 _ hb).2;simp only[Num]at this;omega
       have wr_case:∀(m:Nat) (b:Nat) (ent:Ent) (av:AV),(m=1000+k\/(m=950+k/\k<50/\b<1000))->L b=some ent->D b->(bk0.all (λp=>p.1≠b))=true->(ent.box=true->∀cs∈ent.es,∀a∈cs,a.isC 4=true)->(∀(S':Nat->Prop) (κ':Kap) (D':Nat->Prop),(D' m/\κ' m=κ b)->VRel S' κ' D' w av x)->as=av::as0->ms=(m,ent)::ms0->bk=(b,m)::bk0->fz=fz0->as.length=(a::r).length/\(∀b∈fz,D b)/\(∀p∈bk,D p.1/\Num k p.2 p.1)/\(bk.map (·.1)).Nodup/\(bk.map (·.2)).Nodup/\bk.map (·.2)=ms.map (·.1)/\(∀p∈ms,∃b,(b,p.1)∈bk/\L b=some p.2/\(p.2.box=true->∀cs∈p.2.es,∀a∈cs,a.isC 4=true))/\∀(S':Nat->Prop) (κ':Kap) (D':Nat->Prop),(∀g,S g->S' g)->(∀b∈fz,∀g c,κ b=some (g,c)->S' g)->(∀p∈bk,D' p.2/\κ' p.2=κ p.1)->∀(j:Nat) (a:AV) (y:Value),as[j]?=some a->(x::vals)[j]?=some y->VRel S' κ' D' w a y:=by
        intro m b ent av hm hl hd hall hcl hvr e1 e2 e3 e4;subst e1;subst e2;subst e3;subst e4;refine⟨by simp[i1],i2,?_,?_,?_,by simp[i6],?_,?_⟩
        · intro p hp;rcases za4.1 hp with rfl|hp
          ·refine⟨hd,?_⟩;simp only[Num];omega
          ·have:=i3 p hp;refine⟨this.1,?_⟩;have:=this.2;simp only[Num]at this ⊢;omega
        ·grind
        ·grind
        ·grind
        · intro S' κ' D' hSS hfz hbk j a y hj hy
          cases j with
          |zero =>
            simp at hj hy
            simp_all
          |succ j=>exact i8 S' κ' D' hSS hfz (λp hp=>hbk p (zc7 _ hp)) j a y (by simpa using hj) (by simpa using hy)
       split at h<;>rename_i hcnd<;>clear hcnd
       · split at h
         · rename_i b z
           cases hl:L b with
           |none=>simp[hl]at h
           |some ent =>
             simp only[hl]at h;split at h
             case isFalse=>cases h
             rename_i hc;obtain⟨hz,hbx,hcl,hall⟩:=hc;simp only[zaf,zav]at h;obtain⟨e1,e2,e3,e4⟩:=h;obtain⟨g,c,hd,hk,rfl⟩:=hax.loc_inv;refine wr_case (1000+k) b ent _ (.inl rfl) hl hd hall (λ_ cs hcs a ha=>zgZ (zgZ hcl cs hcs) a ha) ?_ e1.symm e2.symm e3.symm e4.symm;intro S' κ' D' hh;exact .loc (1000+k) z 0 0 g c hh.1 (hh.2.trans hk)
         · rename_i b z off n
           cases hl:L b with
           |none=>simp[hl]at h
           |some ent =>
             simp only[hl]at h;split at h
             case isFalse=>cases h
             rename_i hc;obtain⟨hz,hbx,hzp,hall⟩:=hc;simp only[zaf,zav]at h;obtain⟨e1,e2,e3,e4⟩:=h
             cases hax with
             |c h=>cases h
             |row0 _ _ hd hk=>refine wr_case (1000+k) b ent _ (.inl rfl) hl hd hall (λhb=>by grind) ?_ e1.symm e2.symm e3.symm e4.symm;intro S' κ' D' hh;exact .row0 (1000+k) z hh.1 (hh.2.trans hk)
             |row _ _ _ _ g c off' cap hd hk hn ho hcc=>refine wr_case (1000+k) b ent _ (.inl rfl) hl hd hall (λhb=>by grind) ?_ e1.symm e2.symm e3.symm e4.symm;intro S' κ' D' hh;exact .row (1000+k) z off n g c off' cap hh.1 (hh.2.trans hk) hn ho hcc
         · rename_i b
           cases hl:L b with
           |none=>simp[hl]at h
           |some ent =>
             simp only[hl]at h;split at h
             case isFalse=>cases h
             rename_i hc;obtain⟨hz,hbx,hall⟩:=hc;simp only[zaf,zav]at h;obtain⟨e1,e2,e3,e4⟩:=h;obtain⟨g,c,hd,hk,rfl⟩:=hax.map_inv;refine wr_case (1000+k) b ent _ (.inl rfl) hl hd hall (λhb=>by grind) ?_ e1.symm e2.symm e3.symm e4.symm;intro S' κ' D' hh;exact .map (1000+k) g c hh.1 (hh.2.trans hk)
         ·cases h
       · split at h
         · split at h
           case h_2=>cases h
           rename_i b z n
           cases hl:L b with
           |none=>simp[hl]at h
           |some ent =>
             simp only[hl]at h;split at h
             case isFalse=>cases h
             rename_i hc;obtain⟨hz,hbx,hzp,hn,hb1,hk5,hall⟩:=hc;simp only[zaf,zav]at h;obtain⟨e1,e2,e3,e4⟩:=h
             cases hax with
             |c h=>cases h
             |row0 _ _ hd hk=>refine wr_case (950+k) b ent _ (.inr ⟨rfl,hk5,hb1⟩) hl hd hall (λhb=>by grind) ?_ e1.symm e2.symm e3.symm e4.symm;intro S' κ' D' hh;exact .row0 (950+k) z hh.1 (hh.2.trans hk)
             |row _ _ _ _ g c off' cap hd hk hn ho hcc=>refine wr_case (950+k) b ent _ (.inr ⟨rfl,hk5,hb1⟩) hl hd hall (λhb=>by grind) ?_ e1.symm e2.symm e3.symm e4.symm;intro S' κ' D' hh;exact .row (950+k) z 0 n g c off' cap hh.1 (hh.2.trans hk) hn ho hcc
         cases hs:snap L 5 a with
         |none=>simp[hs]at h
         |some a' =>
           simp only[hs,zaf,zav]at h;obtain⟨rfl,rfl,rfl,rfl⟩:=h;refine⟨by simp[i1],?_,λp hp=>⟨(i3 p hp).1,by have:=(i3 p hp).2;simp only[Num]at this ⊢;omega⟩,i4,i5,i6,i7,?_⟩
           · intro b hb;rcases zbh.1 hb with h|h
             ·exact ids_D hL 5 a x hax b h
             ·exact i2 b h
           · intro S' κ' D' hSS hfz hbk j c y hj hy
             cases j with
             |zero=>simp at hj hy;subst hj;subst hy;exact .c (zlo hL hSS 5 hax hs (λb hb=>hfz b (zf9 _ hb)))
             |succ j=>grind
theorem zx3{ms:Mem}:∀{bk:List (Nat×Nat)} {back:List (Nat×Ent)},backOf ms bk=some back->ids back=bk.map (·.1)/\∀p∈back,∃k,(p.1,k)∈bk/\look ms k=some p.2/\p.2.shut=true
 |[],back,h=>by simp[backOf]at h;subst h;simp[ids]
 |(b,k)::r,back,h=>by
   simp only[backOf]at h;split at h
   · rename_i ent l hl hr;split at h
     case isFalse=>cases h
     rename_i hsh;injection h with h;subst h;obtain⟨h1,h2⟩:=zx3 hr;refine⟨by simp[ids]at h1 ⊢;exact h1,λp hp=>?_⟩
     grind
   ·cases h
theorem shut_spec{ent:Ent}(h:ent.shut=true):ent.box=true->∀cs∈ent.es,∀a∈cs,a.isC 4=true:=by unfold Ent.shut at h;intro hb;rw[hb]at h;simp only[zaF,zei]at h;exact λcs hcs a ha=>zgZ (zgZ h cs hcs) a ha
theorem zt9{S':Nat->Prop}{w':World}:∀(k:Nat) {a:AV} {x:Value},a.flat k=true->CRel S w a x->CRel S' w' a x
 |0,a,x,h,_=>by simp[AV.flat]at h
 |k+1,a,x,h,hr=>by
   cases a<;>simp[AV.flat]at h
   case v=>cases hr;exact .v _
   case agg cs =>
    cases hr with
    |agg _ vs hl h1 hp=>exact .agg cs vs hl h1 λj c x hc hx=>zt9 k (zgZ h c (zaq hc)) (hp j c x hc hx)
   case tup cs =>
    cases hr with
    |tup _ vs hl hp=>exact .tup cs vs hl λj c x hc hx=>zt9 k (zgZ h c (zaq hc)) (hp j c x hc hx)
def kapOf(κ:Kap)(bk:List (Nat×Nat)):Kap:=λk=>match bk.find? (λp=>p.2==k)with
 |some p=>κ p.1
 |none=>none
theorem zlz:∀{bk:List (Nat×Nat)},(bk.map (·.2)).Nodup->∀p∈bk,kapOf κ bk p.2=κ p.1
 |[],_,p,hp=>by cases hp
 |q::r,hn,p,hp=>by
   simp only[zbJ,zfE]at hn;unfold kapOf;rw[List.find?_cons];rcases za4.1 hp with rfl|hp'
   ·simp
   · have hne:(q.2==p.2)=false:=by rw[beq_eq_false_iff_ne];intro e;exact hn.1 (by simp_all)
     simp only[hne];exact zlz hn.2 p hp'
theorem zhe{p:Nat×Nat}:∀{bk:List (Nat×Nat)},p∈ziJ bk↔p∈bk/\1000<=p.2
 |[]=>by simp[ziJ]
 |(b,k)::r=>by
   simp only[ziJ];split
   · rename_i h;rw[zhe,za4]
     grind
   · rename_i h;rw[za4,zhe,za4]
     grind
theorem znv{b:Nat}:∀{bk:List (Nat×Nat)},b∈zdv bk↔∃k,(b,k)∈bk/\k<1000
 |[]=>by simp[zdv]
 |(c,k)::r=>by
   simp only[zdv];split
   · rename_i h;rw[za4,znv]
     grind
   · rename_i h;rw[znv]
     grind
theorem zCM{g:List Nat}{r0 r:Res}(h:zyY g r0=some r)(h0:r0.kill=none):r={ r0 with kill:=g.head? }/\∀b,b∈g↔g.head?=some b:=by
 unfold zyY at h;split at h
 ·injection h with h;subst h;refine⟨?_,by simp⟩;cases r0;grind
 ·grind
 ·cases h
theorem zAQ{back:List (Nat×Ent)}{bk:List (Nat×Nat)}{fz:List Nat}{r:AV}{d:Option Nat}{res:Res}(h:zus back bk fz r d=some res):res.kill=none:=by
 unfold zus at h
 grind
theorem zJw{P:Program}{C:Cfg}{call:zcv}(hcall:CallOK P call){d:Option Nat}{f:FuncId}{args:List AV}{r:Res}{vals:Array Value}
  (hS:∀g,S g->g<w.heap.size) (hDL:∀b,D b↔(L b).isSome=true) (hinj:∀b b' g c c',D b->D b'->κ b=some (g,c)->κ b'=some (g,c')->b=b') (hdd:∀d',d=some d'->¬D d')
  (hL:∀b ent,L b=some ent->EntAt S κ D w (κ b) ent) (h:aCall C call L d f args=some r) (hl:vals.size=args.length)
  (hv:∀(j:Nat) (a:AV) (x:Value),args[j]?=some a->vals[j]?=some x->VRel S κ D w a x):enters P f=true/\Calls P f vals w λe w'=>∃x S' κ',e=.returned x/\EffAt S κ D w S' κ' r x w'/\∀b∈r.frz,D b/\b ∉ ids r.set/\r.kill≠some b:=by
 unfold aCall at h
 cases hp:zeX L (C.wrt f) 0 args with
 |none=>simp[hp]at h
 |some q =>
   obtain⟨as,ms,bk,fz⟩:=q;simp only[hp]at h;split at h
   case isFalse=>cases h
   rename_i hdis;split at h
   ·cases h
   · rename_i rv ms' hc;split at h
     ·cases h
     · rename_i back hback;obtain⟨p1,p2,p3,p4,p5,p6,p7,p8⟩:=zGq hL args 0 as ms bk fz hp vals.toList (by simpa using hl) (λj a x hj hx=>hv j a x hj (by simpa using hx));obtain⟨hb,hcalls⟩:=hcall f as ms rv ms' hc;refine⟨hb,?_⟩;obtain⟨b1,b2'⟩:=zx3 hback
       have b2:∀p∈back,∃k,(p.1,k)∈bk/\look ms' k=some p.2/\1000<=k/\p.2.shut=true:=λp hp=>by obtain⟨k,q1,q2,q3⟩:=b2' p hp;exact⟨k,(zhe.1 q1).1,q2,(zhe.1 q1).2,q3⟩
       split at h
       case isFalse=>cases h
       split at h
       case h_2=>cases h
       rename_i _ res hres0;obtain⟨hkr,hgk⟩:=zCM h (zAQ hres0);subst hkr;clear h;have h:=hres0;clear hres0
       let Sc:Nat->Prop:=λg=>S g\/∃b c,b∈fz/\κ b=some (g,c)
       have hbk:∀p∈bk,Dm ms p.2/\kapOf κ bk p.2=κ p.1:=λp hp=>⟨zi5 (by
        have:p.2∈bk.map (·.2):=zbs.2 ⟨p,hp,rfl⟩;rw[p6]at this
        exact this),zlz p5 p hp⟩
       have hms:∀k ent,look ms k=some ent->∃b,(b,k)∈bk/\L b=some ent/\(ent.box=true->∀cs∈ent.es,∀a∈cs,a.isC 4=true):=λk ent hk=>p7 (k,ent) (zmU hk)
       have hdisj:∀p∈bk,∀b∈fz,b≠p.1:=λp hp b hb=>by grind
       have hScne:∀p∈bk,∀g c,κ p.1=some (g,c)->¬S g->¬Sc g:=by
        intro p hp g c hk hn hs;rcases hs with h|⟨b,c',hb,hk'⟩
        ·exact hn h
        ·grind
       refine(hcalls w Sc (kapOf κ bk) vals (by rw[hl,p1]) ?_ ?_ ?_ ?_).mono ?_
       · intro g hg;rcases hg with h|⟨b,c,hb,hk⟩
         ·exact hS g h
         ·have hdb:=p2 b hb;obtain⟨ent,hent⟩:=zaI.1 ((hDL b).1 hdb);have:=hL b ent hent;rw[hk]at this;exact this.lt
       ·grind
       ·intro k ent hk;obtain⟨b,hbk',hlb,hcl⟩:=hms k ent hk;rw[zlz p5 _ hbk'];exact(hL b ent hlb).handed (λ_ h=>.inl h) (λg c hkb=>hScne (b,k) hbk' g c hkb (by have:=hL b ent hlb;rw[hkb]at this;exact this.notS)) hcl
       · intro k k' g c c' hk hk' e1 e2;obtain⟨ent,hent⟩:=zaI.1 hk;obtain⟨ent',hent'⟩:=zaI.1 hk';obtain⟨b,hb,_⟩:=hms k ent hent;obtain⟨b',hb',_⟩:=hms k' ent' hent';rw[zlz p5 _ hb]at e1;rw[zlz p5 _ hb']at e2;have hbb:=hinj b b' g c c' (p3 _ hb).1 (p3 _ hb').1 e1 e2;subst hbb
         have inj1:∀(l:List (Nat×Nat)),(l.map (·.1)).Nodup->∀x y z,(x,y)∈l->(x,z)∈l->y=z:=by
          intro l hn
          induction l with
          |nil=>intro x y z h;cases h
          |cons q l ihl=>grind
         grind
       · rintro e w' ⟨x,S1,κ1,rfl,hos,htape,hout,hsz,hblk,hsup,hsnew,hslt,hpar,hmine,hinj1,hents,hres⟩
         have hfr:∀b∈(frzOf rv bk fz),D b/\b∈fz:=by
          intro b hb;unfold frzOf at hb;split at hb
          ·cases hb
          ·grind
         have hMine:∀g,Mine w (kapOf κ bk) (Dm ms) g->w.heap.size<=g\/∃b c,b∈zdv bk/\D b/\κ b=some (g,c):=by
          rintro g (h|⟨k,c,hk1,hk2,hk3⟩)
          ·exact .inl h
          ·obtain⟨ent,hent⟩:=zaI.1 hk2;obtain⟨b,hb,_⟩:=hms k ent hent;rw[zlz p5 _ hb]at hk3;exact .inr ⟨b,c,znv.2 ⟨k,hb,hk1⟩,(p3 _ hb).1,hk3⟩
         have hbackD:∀p∈back,D p.1:=λp hp=>by grind
         have hbackfz:∀b∈fz,b ∉ ids back:=by intro b hb hm;rw[b1]at hm;obtain⟨p,hp,rfl⟩:=zbs.1 hm;exact hdisj p (zhe.1 hp).1 p.1 hb rfl
         obtain⟨S2,hS2a,hS2b,hS2c,hS2d,hS2e,hS2f⟩:∃S2:Nat->Prop,(∀g,S g->S2 g)/\(∀g,S2 g->S1 g)/\(∀g,S2 g->S g\/w.heap.size<=g\/∃b c,(b∈(frzOf rv bk fz)\/b∈zdv bk)/\D b/\κ b=some (g,c))/\(bk≠[]->S2=S1)/\(rv.flat 4=false->S2=S1)/\(∀b∈frzOf rv bk fz,∀g c,κ b=some (g,c)->S2 g):=by
          by_cases hfl:(rv.flat 4&&bk.isEmpty)=true
          ·simp only[frzOf,hfl,if_true];simp only[zaO,List.isEmpty_iff]at hfl;exact⟨S,λ_ h=>h,λg h=>hsup g (.inl h),λg h=>.inl h,λh=>absurd hfl.2 h,(λh=>by grind),by simp⟩
          · simp only[frzOf,hfl,if_false,zbt];refine⟨S1,λg h=>hsup g (.inl h),λ_ h=>h,λg h=>?_,λ_=>rfl,λ_=>rfl,λb hb g c hk=>hsup g (.inr ⟨b,c,hb,hk⟩)⟩
            grind
         have hcell:∀g,S g->w'.heap[g]?=w.heap[g]?:=λg hg=>hblk g (hS g hg) (λk c hk hkk=>by
          obtain⟨ent,hent⟩:=zaI.1 hk;obtain⟨b,hb,hlb,_⟩:=hms k ent hent;rw[zlz p5 _ hb]at hkk;have:=hL b ent hlb;rw[hkk]at this
          exact this.notS hg)
         have fin:∀(newset:List (Nat×Ent)) (κ':Kap) (val:AV),(∀b,D b->κ' b=κ b)->(∀b,b ∉ ids newset->κ' b=κ b)->(∀p∈newset,¬D p.1/\(∀g c,κ' p.1=some (g,c)->w.heap.size<=g\/∃b0 c0,b0∈zdv bk/\D b0/\κ b0=some (g,c0))/\EntC S2 w' (κ' p.1) p.2)->(∀p∈newset,∀p'∈newset,p.1=p'.1)->(∀D':Nat->Prop,(∀p∈newset,D' p.1)->(∀b∈ids back,D' b)->VRel S2 κ' D' w' val x)->EffAt S κ D w S2 κ' { val:=val,set:=newset++back,frz:=frzOf rv bk fz,kill:=(zdv bk).head? } x w':=by
          intro newset κ' val hk1 hk2 hnew hone hval
          exact{
           os:=hos
           tape:=htape
           output:=hout
           size:=hsz
           blk:=λg hg hbb=>hblk g hg (λk c hk hkk=>by
            obtain⟨ent,hent⟩:=zaI.1 hk;obtain⟨b,hb,hlb,_⟩:=hms k ent hent;rw[zlz p5 _ hb]at hkk;by_cases hk1:k<1000
            ·exact hbb b c (.inr ((hgk b).1 (znv.2 ⟨k,hb,hk1⟩))) (p3 _ hb).1 hkk
            refine hbb b c (.inl ?_) (p3 _ hb).1 hkk;have:b∈ids back:=by rw[b1];exact zbs.2 ⟨_,zhe.2 ⟨hb,by simp;omega⟩,rfl⟩
            simp[ids]at this ⊢
            exact .inr this)
           sup:=hS2a
           snew:=λg hg=>(hS2c g hg).imp id (λq=>q.imp id (λ⟨b,c,h1,h2⟩=>⟨b,c,h1.imp id (λq=>.inl ((hgk b).1 q)),h2⟩))
           slt:=λg h=>hslt g (hS2b g h)
           sfrz:=hS2f
           kold:=λb hb _=>hk1 b hb
           kout:=λb hb=>hk2 b (λhm=>hb (by simp[ids]at hm ⊢;exact .inl hm))
           res:=λb hb=>by cases hb
           knew:=λb hnd' hb g c hk=>by
            have hnd:¬D b:=λhd=>by grind
            simp[ids]at hb
            grind
           one:=λb b' h1' h2' hb hb' _ _ _ _ _=>by
            have h1:¬D b:=λhd=>by grind
            have h2:¬D b':=λhd=>by grind
            simp[ids]at hb hb'
            grind
           ents:=λb ent hb=>by
            rcases zbh.1 hb with hb|hb
            ·refine(hnew _ hb).2.2.mono (λ_ h=>h) (λ_ _=>rfl) (λ_ h=>h.elim) (λ_ h=>h.elim) (λg c hk=>⟨rfl,?_⟩);have:=(hnew _ hb).2.2;simp only at this hk;rw[hk]at this;exact this.notS
            · obtain⟨k,hk,hlk,hk1000,hsh⟩:=b2 _ hb;obtain⟨_,hE0⟩:=hents k ent hlk;have hE:EntC S1 w' (κ1 k) ent:=hE0.handed (λ_ h=>h) (λg c hk=>by rw[hk]at hE0;exact hE0.notS) (shut_spec hsh);rw[hpar k hk1000,zlz p5 _ hk]at hE;rw[hk1 b (p3 _ hk).1];have hne:bk≠[]:=λe=>by rw[e]at hk;cases hk
              rw[hS2d hne];simp only at hE;refine hE.mono (λ_ h=>h) (λ_ _=>rfl) (λ_ h=>h.elim) (λ_ h=>h.elim) (λg c hkk=>⟨rfl,?_⟩);rw[hkk]at hE;exact hE.notS
           val:=hval _ (λp hp=>.inr (by simp[ids];grind)) (λb hb=>.inr (by simp[ids]at hb ⊢;exact .inr hb)) }
         have dis:∀(newset:List (Nat×Ent)) (val:AV),(∀p∈newset,¬D p.1)->∀b∈({ val:=val,set:=newset++back,frz:=frzOf rv bk fz }:Res).frz,D b/\b ∉ ids (newset++back)/\(zdv bk).head?≠some b:=by
          intro newset val hn b hb;obtain⟨h1,h2⟩:=hfr b hb;refine⟨h1,λhm=>?_,λhm=>?_⟩
          rotate_left
          · obtain⟨k,hk,_⟩:=znv.1 ((hgk b).2 hm)
            grind
          simp[ids]at hm;rcases hm with⟨en,hm⟩|⟨en,hm⟩
          ·exact hn _ hm h1
          ·grind
         unfold zus at h
         have plain:CRel S1 w' rv x->res={ val:=rv,set:=back,frz:=frzOf rv bk fz }->∃x_1 S' κ',(Ending.returned x=Ending.returned x_1)/\EffAt S κ D w S' κ' { res with kill:=(zdv bk).head? } x_1 w'/\∀b∈res.frz,D b/\b ∉ ids res.set/\(zdv bk).head?≠some b:=by
          intro hrel e;subst e
          have hrel2:CRel S2 w' rv x:=by
           by_cases hfl:rv.flat 4=true
           ·exact zt9 4 hfl hrel
           ·grind
          have:=fin [] κ rv (λ_ _=>rfl) (λ_ _=>rfl) (by simp) (by simp) (λD' _ _=>.c hrel2);exact⟨x,S2,κ,rfl,this,dis [] rv (by simp)⟩
         cases rv with
         |new z e es =>
           cases d with
           |none=>simp at h
           |some d =>
             simp only[zaf]at h;subst h;have hnd:=hdd d rfl;have hfl:(AV.new z e es).flat 4=false:=rfl;have hS2:=hS2e hfl;subst hS2;obtain⟨hzp,hres⟩:=hres;rcases hres with⟨rfl,rfl⟩|⟨g,c,hg,rfl,hE⟩
             · refine⟨_,_,λb=>if b=d then none else κ b,rfl,fin [(d,{ z,e,es:=[],box:=false })] _ (.row d z 0 0) (λb hb=>if_neg (λe=>hnd (by subst e;exact hb))) (λb hb=>if_neg (λe=>hb (by simp[ids,e]))) ?_ (by simp) ?_,dis [(d,_)] (.row d z 0 0) (by simpa using hnd)⟩
               ·intro p hp;simp at hp;subst hp;exact⟨hnd,by simp,EntAt.of (.inr hzp) (by simp[CellAt])⟩
               ·intro D' hD' _;exact .row0 d z (hD' (d,{ z,e,es:=[],box:=false }) (by simp)) (by simp)
             · refine⟨_,_,λb=>if b=d then some (g,c)else κ b,rfl,fin [(d,{ z,e,es,box:=false })] _ (.row d z 0 es.length) (λb hb=>if_neg (λe=>hnd (by subst e;exact hb))) (λb hb=>if_neg (λe=>hb (by simp[ids,e]))) ?_ (by simp) ?_,dis [(d,_)] (.row d z 0 es.length) (by simpa using hnd)⟩
               ·grind
               ·intro D' hD' _;have hle:=(hE.1 (.inr hzp)).2.choose_spec.2.2.1;exact .row d z 0 es.length g c 0 c (hD' (d,{ z,e,es,box:=false }) (by simp)) (by simp) hle (.inl (by simp)) (λ_=>rfl)
         |newp z e cs =>
           cases d with
           |none=>simp at h
           |some d =>
             simp only[zaf]at h;subst h;have hnd:=hdd d rfl;have hfl:(AV.newp z e cs).flat 4=false:=rfl;have hS2:=hS2e hfl;subst hS2;obtain⟨g,c,hg,rfl,hE⟩:=hres;refine⟨_,_,λb=>if b=d then some (g,c)else κ b,rfl,fin [(d,{ z,e,es:=[cs],box:=true })] _ (.loc d z 0 0) (λb hb=>if_neg (λe=>hnd (by subst e;exact hb))) (λb hb=>if_neg (λe=>hb (by simp[ids,e]))) ?_ (by simp) ?_,dis [(d,_)] (.loc d z 0 0) (by simpa using hnd)⟩
             ·grind
             ·intro D' hD' _;have:=VRel.loc (S:=S2) (κ:=λb=>if b=d then some (g,c)else κ b) (D:=D') (w:=w') d z 0 0 g c (hD' (d,{ z,e,es:=[cs],box:=true }) (by simp)) (by simp);simpa using this
         |newm e es =>
           cases d with
           |none=>simp at h
           |some d =>
             simp only[zaf]at h;subst h;have hnd:=hdd d rfl;have hfl:(AV.newm e es).flat 4=false:=rfl;have hS2:=hS2e hfl;subst hS2;obtain⟨g,c,hg,rfl,hE⟩:=hres;refine⟨_,_,λb=>if b=d then some (g,c)else κ b,rfl,fin [(d,{ z:=0,e,es,box:=false })] _ (.map d) (λb hb=>if_neg (λe=>hnd (by subst e;exact hb))) (λb hb=>if_neg (λe=>hb (by simp[ids,e]))) ?_ (by simp) ?_,dis [(d,_)] (.map d) (by simpa using hnd)⟩
             ·grind
             ·intro D' hD' _;exact .map d g c (hD' (d,{ z:=0,e,es,box:=false }) (by simp)) (by simp)
         |map b=>simp at h
         |row b z off n =>
           simp only at h
           cases hf:(ziJ bk).find? (λp=>p.2==b)with
           |none=>rw[hf]at h;cases h
           |some p =>
             rw[hf]at h;simp only[zaf]at h;subst h;have hpm':p∈ziJ bk:=zdI hf;have hpm:p∈bk:=(zhe.1 hpm').1;have hpb:p.2=b:=by simpa using zf3 hf
             have hke:kapOf κ bk b=κ p.1:=by rw[<-hpb];exact(hbk p hpm).2
             have hinb:p.1∈ids back:=by rw[b1];exact zbs.2 ⟨_,hpm',rfl⟩
             have hS2:=hS2e rfl;subst hS2;refine⟨x,S2,κ,rfl,fin [] κ (.row p.1 z off n) (λ_ _=>rfl) (λ_ _=>rfl) (by simp) (by simp) ?_,dis [] (.row p.1 z off n) (by simp)⟩;intro D' _ hB;have hD':=hB p.1 hinb
             cases hres with
             |c h=>cases h
             |row0 _ _ hd hk=>exact .row0 p.1 z hD' (by rw[<-hke];exact hk)
             |row _ _ _ _ g c off' cap hd hk hn ho hc=>exact .row p.1 z off n g c off' cap hD' (by rw[<-hke];exact hk) hn ho hc
         |loc b z i o =>
           simp only at h
           cases hf:(ziJ bk).find? (λp=>p.2==b)with
           |none=>rw[hf]at h;cases h
           |some p =>
             rw[hf]at h;simp only[zaf]at h;subst h;have hpm':p∈ziJ bk:=zdI hf;have hpm:p∈bk:=(zhe.1 hpm').1;have hpb:p.2=b:=by simpa using zf3 hf
             have hke:kapOf κ bk b=κ p.1:=by rw[<-hpb];exact(hbk p hpm).2
             have hinb:p.1∈ids back:=by rw[b1];exact zbs.2 ⟨_,hpm',rfl⟩
             have hS2:=hS2e rfl;subst hS2;refine⟨x,S2,κ,rfl,fin [] κ (.loc p.1 z i o) (λ_ _=>rfl) (λ_ _=>rfl) (by simp) (by simp) ?_,dis [] (.loc p.1 z i o) (by simp)⟩;intro D' _ hB;have hD':=hB p.1 hinb
             cases hres with
             |c h=>cases h
             |loc _ _ _ _ g c hd hk=>exact .loc p.1 z i o g c hD' (by rw[<-hke];exact hk)
         |_=>simp only[zaf]at h;exact plain hres h.symm
end
end Go.Ab
namespace Go.Ab
open Go.RowKit
section
variable{P:Program}{S:Nat->Prop}{κ:Kap}{D:Nat->Prop}{w:World}{L:Nat->Option Ent}
theorem znr{o:Oper}{E:Operand->AV}{r:Res}{ρ:Operand->Value}(hs:∀cs b,o.op≠.select cs b)(hE:∀x∈o.op.operands,VRel S κ D w (E x) (ρ x))(h:aPure P o E=some r):∃y,(execOp ρ o).run P w=.ok (.value y) w/\VRel S κ D w r.val y/\r.set=[]/\r.kill=none/\r.frz=[]/\r.re=[]:=by
 unfold aPure at h;split at h
 case isFalse=>cases h
 rename_i hall
 have hcongr:execOp ρ o=execOp (λx=>((E x).toVal).getD undef) o:=execOp_congr o hs (λx hx=>by
  have h1:=zbH.1 hall x (by simpa using hx);obtain⟨y,hy⟩:=zaI.1 h1;simp only[hy,zbN]
  exact zCL hy (hE x hx))
 split at h
 case h_2=>cases h
 rename_i x hx;split at h
 case h_2=>cases h
 rename_i av hav;injection h with h;subst h;refine⟨x,?_,.c (zKc hav),rfl,rfl,rfl,rfl⟩;rw[hcongr];exact ztD P _ _ hx w
def IsOf(P:Program)(t:TypeId)(xs:List Value)(x:Value):Prop:=(isAggB P t=some true/\x=.agg xs.toArray)\/(isAggB P t=some false/\xs=[x])
def aggD:TypeDesc->Bool
 |.struct _=>true
 |.array _ _=>true
 |_=>false
theorem zj0{t:TypeId}{td:TypeDesc}(h:P.underlying t=some td):isAggB P t=some (aggD td):=by unfold isAggB;rw[h];cases td<;>rfl
theorem eqV_agg{k:Nat}{t:TypeId}{xs ys:List Value}{r:Bool}(h:eqV P k t xs ys=some r):isAggB P t=some true\/(isAggB P t=some false/\(∃x,xs=[x])/\∃y,ys=[y]):=by
 cases k with
 |zero=>simp[eqV]at h
 |succ k =>
   unfold eqV at h;split at h
   · rename_i hu;split at h
     ·exact .inr ⟨zj0 hu,⟨_,rfl⟩,_,rfl⟩
     ·cases h
   · rename_i hu;split at h
     ·exact .inr ⟨zj0 hu,⟨_,rfl⟩,_,rfl⟩
     ·cases h
   · rename_i hu;split at h
     ·exact .inr ⟨zj0 hu,⟨_,rfl⟩,_,rfl⟩
     ·cases h
   ·rename_i hu;exact .inl (zj0 hu)
   ·rename_i hu;exact .inl (zj0 hu)
   ·cases h
theorem part_of{t:TypeId}{arr:Array Value}{off n:Nat}(w:World)(hn:szB P t=some n)(h:isAggB P t=some true\/(isAggB P t=some false/\∃x,(arr.toList.drop off).take n=[x])):∃y,(part t arr off).run P w=.ok y w/\IsOf P t ((arr.toList.drop off).take n) y:=by
 rcases h with h|⟨h,x,hx⟩
 · refine⟨.agg (arr.extract off (off+n)),?_,.inl ⟨h,?_⟩⟩
   ·simp only[part,Sem.run_bind,zov h,Result.andThen_ok,if_true,zd7 hn,Sem.run_pure]
   · congr 1
     grind
 · have hget:arr[off]?=some x:=by
    have h0:((arr.toList.drop off).take n)[0]?=some x:=by rw[hx];rfl
    rw[zch]at h0;split at h0
    ·simp_all
    ·cases h0
   refine⟨x,?_,.inr ⟨h,hx⟩⟩;simp only[part,Sem.run_bind,zov h,Result.andThen_ok,zbt,if_false,hget,Sem.run_pure]
theorem zt7{a b:Option Bool}{r:Bool}(h:eqAnd a b=some r):∃x y,a=some x/\b=some y/\r=(x&&y):=by
 cases a<;>cases b<;>simp[eqAnd]at h
 simp_all
theorem zAP:∀(k:Nat) (t:TypeId) (xs ys:List Value) (r:Bool),eqV P k t xs ys=some r->∀(d:Nat) (x y:Value) (w:World),IsOf P t xs x->IsOf P t ys y->(Op.equalIn (d+k) t x y).run P w=.ok r w:=by
 intro k
 induction k with
 |zero=>intro t xs ys r h;simp[eqV]at h
 |succ k ih =>
   intro t xs ys r h d x y w hx hy
   have step:∀(u:TypeId) (xs ys:List Value) (n off:Nat) (r1:Bool) (w:World),szB P u=some n->eqV P k u ((xs.drop off).take n) ((ys.drop off).take n)=some r1->∃a b,(part u xs.toArray off).run P w=.ok a w/\(part u ys.toArray off).run P w=.ok b w/\(Op.equalIn (d+k) u a b).run P w=.ok r1 w:=by intro u xs ys n off r1 w hn he;have hs:=eqV_agg he;obtain⟨a,ha,ia⟩:=part_of (arr:=xs.toArray) (off:=off) w hn (hs.imp id (λq=>⟨q.1,q.2.1⟩));obtain⟨b,hb,ib⟩:=part_of (arr:=ys.toArray) (off:=off) w hn (hs.imp id (λq=>⟨q.1,q.2.2⟩));exact⟨a,b,ha,hb,ih u _ _ r1 he d a b w ia ib⟩
   have one:∀{td:TypeDesc} {a b:Value},P.underlying t=some td->aggD td=false->xs=[a]->ys=[b]->x=a/\y=b:=by
    intro td a b hu hf h1 h2;have hagg:=zj0 hu;rw[hf]at hagg;rcases hx with⟨q,_⟩|⟨_,q⟩
    ·grind
    · rcases hy with⟨q',_⟩|⟨_,q'⟩
      ·grind
      simp_all
   have two:∀{td:TypeDesc},P.underlying t=some td->aggD td=true->x=.agg xs.toArray/\y=.agg ys.toArray:=by
    intro td hu hf;have hagg:=zj0 hu;rw[hf]at hagg;rcases hx with⟨_,q⟩|⟨q,_⟩
    · rcases hy with⟨_,q'⟩|⟨q',_⟩
      ·exact⟨q,q'⟩
      simp_all
    ·grind
   unfold eqV at h;split at h
   · rename_i hu;split at h
     ·injection h with h;obtain⟨rfl,rfl⟩:=one hu rfl rfl rfl;rw[<-h];exact run_equalIn_bool' w (d+k) t _ _ hu
     ·cases h
   · rename_i q hu;split at h
     · split at h
       ·rename_i hq;subst hq;injection h with h;obtain⟨rfl,rfl⟩:=one hu rfl rfl rfl;rw[<-h];exact run_equalIn_int w (d+k) t _ _ _ _ hu
       ·cases h
     ·cases h
   · rename_i hu;split at h
     ·injection h with h;obtain⟨rfl,rfl⟩:=one hu rfl rfl rfl;rw[<-h,beq_toListBytes];exact run_equalIn_string w (d+k) t _ _ hu
     ·cases h
   · rename_i fs hu;split at h
     ·cases h
     rename_i hst;obtain⟨rfl,rfl⟩:=two hu rfl;have hfs:P.fieldsOf t=fs:=by simp[Program.fieldsOf,hu]
     rw[show d+(k+1)=(d+k)+1 from rfl,run_equalIn_struct w (d+k) t _ _ (by rw[hfs];exact hu) (by simpa using hst),hfs];generalize fs.toList=l at h;clear hu hfs
     induction l generalizing r w with
     |nil=>simp only[eqFs]at h;injection h with h;subst h;simp[Op.eqFields]
     |cons f l ihl =>
       simp only[eqFs]at h;simp only[Op.eqFields];split at h
       · rename_i hn;rw[if_pos hn];split at h
         · rename_i n hsz;obtain⟨r1,r2,e1,e2,rfl⟩:=zt7 h;obtain⟨a,b,p1,p2,p3⟩:=step f.type xs ys n f.offset r1 w hsz e1;simp only[Sem.run_bind,p1,p2,p3,Result.andThen_ok]
           cases r1 with
           |false=>simp
           |true=>grind
         ·cases h
       grind
   · rename_i n e hu;split at h
     case h_2=>cases h
     rename_i c hc;obtain⟨rfl,rfl⟩:=two hu rfl
     obtain⟨i,hi⟩:∃i,P.info? e=some i:=by
      cases hq:P.info? e with
      |none=>simp[szB,hq]at hc
      |some i=>exact⟨i,rfl⟩
     have hcell:P.cellsOf e=c:=by simp only[szB]at hc;simp only[Program.cellsOf];rw[hc];rfl
     rw[show d+(k+1)=(d+k)+1 from rfl,run_equalIn_array w (d+k) _ _ hu hi,hcell];generalize List.range n=l at h;clear hu
     induction l generalizing r w with
     |nil=>simp only[eqIs]at h;injection h with h;subst h;simp[Op.eqItems]
     |cons j l ihl =>
       simp only[eqIs]at h;simp only[Op.eqItems];obtain⟨r1,r2,e1,e2,rfl⟩:=zt7 h;obtain⟨a,b,p1,p2,p3⟩:=step e xs ys c (j*c) r1 w hc e1;simp only[Sem.run_bind,p1,p2,p3,Result.andThen_ok]
       cases r1 with
       |false=>simp
       |true=>grind
   ·cases h
theorem znA{cs:List AV}{l:List Value}{v:Value}(h:mapO AV.scal cs=some l)(hr:VRel S κ D w (.agg cs) v):v=.agg l.toArray:=by
 have:(AV.agg cs).toVal=some (.agg l.toArray):=by simp[AV.toVal,h]
 exact zCL this hr
theorem aEq_sound{o:Oper}{op:BinOp}{t u:TypeId}{x y:Operand}{cs ds:List AV}{r:Res}{ρ:Operand->Value}(ho:o.op=.binOp op t x y u)(h:aEq P op t cs ds=some r)
  (hx:VRel S κ D w (.agg cs) (ρ x)) (hy:VRel S κ D w (.agg ds) (ρ y)):∃b,(execOp ρ o).run P w=.ok (.value (.bool b)) w/\r={ val:=.v (.bool b) }:=by
 unfold aEq at h;split at h
 case h_2=>cases h
 rename_i xs ys h1 h2;split at h
 ·cases h
 rename_i hg;have ex:=znA h1 hx;have ey:=znA h2 hy;have hg':P.eqGuardType P.depth t=false:=by simpa using hg
 split at h
 · rename_i b ha he;injection h with h;refine⟨b,?_,h.symm⟩;have:=zAP (P:=P) 20 t xs ys b he 9980 _ _ w (.inl ⟨ha,rfl⟩) (.inl ⟨ha,rfl⟩);simp only[execOp,ho,ex,ey,Sem.run_bind,run_eqGuard_agg w .eql t x y _ _ hg',Result.andThen_ok,run_eql_struct]
   simp_all
 · rename_i b ha he;injection h with h;refine⟨!b,?_,h.symm⟩;have:=zAP (P:=P) 20 t xs ys b he 9980 _ _ w (.inl ⟨ha,rfl⟩) (.inl ⟨ha,rfl⟩);simp only[execOp,ho,ex,ey,Sem.run_bind,run_eqGuard_agg w .neq t x y _ _ hg',Result.andThen_ok,run_neq_struct]
   simp_all
 ·cases h
theorem zJ1{t e:TypeId}{p:Addr}(hu:P.underlying t=some (.pointer e))(d:Nat):(Op.equalIn (d+1) t (.pointer (some p)) (.pointer none)).run P w=.ok false w:=by simp only[Op.equalIn,Sem.run_bind,run_underlying hu,Result.andThen_ok,Sem.run_pure]
theorem nil_run{o:Oper}{op:BinOp}{t u e:TypeId}{x y:Operand}{p:Addr}{r:Res}{ρ:Operand->Value}(ho:o.op=.binOp op t x y u)(hu:P.underlying t=some (.pointer e))(e1:ρ x=.pointer (some p))(e2:ρ y=.pointer none)
  (h:nilOp op=some r):∃q,(execOp ρ o).run P w=.ok (.value (.bool q)) w/\r={ val:=.v (.bool q) }:=by
 have heq:(Op.equal t (.pointer (some p)) (.pointer none)).run P w=.ok false w:=zJ1 (P:=P) (w:=w) (p:=p) hu 9999;cases op<;>simp only[nilOp,zaf,reduceCtorEq]at h
 ·refine⟨false,?_,h.symm⟩;simp[execOp,ho,e1,e2,eqGuard,binOp,heq]
 ·refine⟨true,?_,h.symm⟩;simp[execOp,ho,e1,e2,eqGuard,binOp,heq]
theorem zJj{o:Oper}{op:BinOp}{t u:TypeId}{x y:Operand}{a b:AV}{r:Res}{ρ:Operand->Value}(ho:o.op=.binOp op t x y u)(h:nilCmp P op t a b=some r)
  (hx:VRel S κ D w a (ρ x)) (hy:VRel S κ D w b (ρ y)):∃q,(execOp ρ o).run P w=.ok (.value (.bool q)) w/\r={ val:=.v (.bool q) }:=by
 unfold nilCmp at h;split at h
 · rename_i e cs hu;have e2:=hy.v_inv;generalize hv:ρ x=v at hx
   cases hx.fp_inv with
   |fp _ p _ _ _ _=>exact nil_run ho hu hv e2 h
 ·rename_i e z es hu;have e2:=hy.v_inv;obtain⟨p,_,hv,_⟩:=hx.fa_inv.fa_data;exact nil_run ho hu hv e2 h
 ·rename_i e b0 z i o0 hu;have e2:=hy.v_inv;obtain⟨g,c,_,_,e1⟩:=hx.loc_inv;exact nil_run ho hu e1 e2 h
 ·cases h
theorem zFv{t:TypeId}{cs:List AV}{arr:Array Value}{off:Nat}{av:AV}(hl:arr.size=cs.length)(h1:∀x∈arr,x.oneCell'=true)
  (hr:∀(j:Nat) (c:AV) (x:Value),cs[j]?=some c->arr[j]?=some x->VRel S κ D w c x) (h:readAt P t (cs.drop off)=some av):∃y,(part t arr off).run P w=.ok y w/\VRel S κ D w av y:=by
 unfold readAt at h
 cases hb:isAggB P t with
 |none=>simp[hb]at h
 |some b =>
   cases b with
   |false =>
     simp only[hb]at h;rw[zb4,zer]at h;have hlt:off<arr.size:=by have:=(zam.1 h).1;omega
     exact⟨arr[off],by simp[part,zov hb,hlt],hr off av _ h (zaU hlt)⟩
   |true =>
     simp only[hb]at h
     cases hs:szB P t with
     |none=>simp[hs]at h
     |some n =>
       simp only[hs]at h;split at h
       case isFalse=>cases h
       rename_i hle;injection h with h;subst h;simp at hle;refine⟨.agg (arr.extract off (off+n)),by simp[part,zov hb,zd7 hs],.agg _ _ ?_ ?_ ?_⟩
       ·simp;omega
       · intro x hx;obtain⟨j,hj⟩:=zfs.1 hx
         grind
       grind
def Dis(D:Nat->Prop)(r:Res):Prop:=∀b∈r.frz,D b/\b ∉ ids r.set/\r.kill≠some b
end
end Go.Ab
namespace Go.Ab
open Go.RowKit
variable[Dr]
def First(P:Program)(t:TypeId)(k:AV)(es:List (List AV)):Option Nat->Prop
 |none=>∀cs∈es,∃ka va,cs=[ka,va]/\keyEq P t k ka=some false
 |some j=>(∃ka va,es[j]?=some [ka,va]/\keyEq P t k ka=some true)/\∀i<j,∃ka va,es[i]?=some [ka,va]/\keyEq P t k ka=some false
section
variable{P:Program}{t:TypeId}{k:AV}
theorem First.nil:First P t k [] none:=λcs h=>by cases h
theorem First.cons{ka va:AV}{es:List (List AV)}{o:Option Nat}(he:keyEq P t k ka=some false)(h:First P t k es o):First P t k ([ka,va]::es) (o.map (·+1)):=by
 cases o with
 |none =>
   intro cs hcs;rcases za4.1 hcs with rfl|hcs
   ·simp_all
   ·exact h cs hcs
 |some j =>
   obtain⟨⟨k1,v1,h1,h2⟩,h3⟩:=h;refine⟨⟨k1,v1,by simpa using h1,h2⟩,λi hi=>?_⟩
   cases i with
   |zero=>simp_all
   |succ i=>simp_all
theorem First.head{ka va:AV}{es:List (List AV)}(he:keyEq P t k ka=some true):First P t k ([ka,va]::es) (some 0):=
 ⟨⟨ka,va,rfl,he⟩,λi hi=>by omega⟩
theorem zyy:∀{es:List (List AV)} {o:Option AV},mlook P t k es=some o->(o=none/\First P t k es none)\/∃j ka va,o=some va/\es[j]?=some [ka,va]/\First P t k es (some j)
 |[],o,h=>by simp only[mlook,zaf]at h;exact .inl ⟨h.symm,.nil⟩
 |[ka,va]::r,o,h=>by
   simp only[mlook]at h;split at h
   ·rename_i he;simp only[zaf]at h;exact .inr ⟨0,ka,va,h.symm,rfl,.head he⟩
   · rename_i he;rcases zyy h with⟨h1,h2⟩|⟨j,k1,v1,h1,h2,h3⟩
     ·exact .inl ⟨h1,h2.cons he⟩
     ·exact .inr ⟨j+1,k1,v1,h1,by simpa using h2,h3.cons he⟩
   ·cases h
 |[]::r,o,h=>by simp[mlook]at h
 |[_]::r,o,h=>by simp[mlook]at h
 |(_::_::_::_)::r,o,h=>by simp[mlook]at h
theorem zGS{v:AV}:∀{es es':List (List AV)},mset P t k v es=some es'->(First P t k es none/\es'=es++[[k,v]])\/∃j,First P t k es (some j)/\es'=es.set j [k,v]
 |[],es',h=>by simp only[mset,zaf]at h;exact .inl ⟨.nil,h.symm⟩
 |[ka,va]::r,es',h=>by
   simp only[mset]at h;split at h
   ·rename_i he;simp only[zaf]at h;exact .inr ⟨0,.head he,h.symm⟩
   · rename_i he;split at h
     · rename_i l hl;simp only[zaf]at h;rcases zGS hl with⟨h1,h2⟩|⟨j,h1,h2⟩
       ·exact .inl ⟨h1.cons he,by rw[<-h,h2];rfl⟩
       ·exact .inr ⟨j+1,h1.cons he,by rw[<-h,h2];rfl⟩
     ·cases h
   ·cases h
 |[]::r,o,h=>by simp[mset]at h
 |[_]::r,o,h=>by simp[mset]at h
 |(_::_::_::_)::r,o,h=>by simp[mset]at h
theorem zGO:∀{es es':List (List AV)},mdel P t k es=some es'->(First P t k es none/\es'=es)\/∃j,First P t k es (some j)/\es'=es.eraseIdx j
 |[],es',h=>by simp only[mdel,zaf]at h;exact .inl ⟨.nil,h.symm⟩
 |[ka,va]::r,es',h=>by
   simp only[mdel]at h;split at h
   ·rename_i he;simp only[zaf]at h;exact .inr ⟨0,.head he,by rw[<-h];rfl⟩
   · rename_i he;split at h
     · rename_i l hl;simp only[zaf]at h;rcases zGO hl with⟨h1,h2⟩|⟨j,h1,h2⟩
       ·exact .inl ⟨h1.cons he,by rw[<-h,h2]⟩
       ·exact .inr ⟨j+1,h1.cons he,by rw[<-h,h2];rfl⟩
     ·cases h
   ·cases h
 |[]::r,o,h=>by simp[mdel]at h
 |[_]::r,o,h=>by simp[mdel]at h
 |(_::_::_::_)::r,o,h=>by simp[mdel]at h
end
theorem bitsB_same{x y:Value}(n:Nat)(h:bitsB x y=some true):Instr.sameBits n x y=true:=by
 unfold bitsB at h;split at h
 · split at h
   ·rename_i hk;subst hk;simp only[zaf]at h;cases n<;>simpa[Instr.sameBits]using h
   ·cases h
 ·simp only[zaf]at h;cases n<;>simpa[Instr.sameBits]using h
 ·simp only[zaf]at h;cases n<;>simpa[Instr.sameBits]using h
 ·cases h
theorem zEA(n:Nat):∀{xs ys:List Value},bitsL xs ys=some true->xs.length=ys.length/\(xs.zip ys).all (λ(x,y)=>Instr.sameBits n x y)=true
 |[],[],_=>⟨rfl,rfl⟩
 |x::r,y::s,h=>by
   simp only[bitsL]at h;obtain⟨a,b,ha,hb,hab⟩:=zt7 h;have h1:a=true:=by cases a<;>simp at hab ⊢
   have h2:b=true:=by grind
   subst h1;subst h2;obtain⟨i1,i2⟩:=zEA n hb;refine⟨by simp[i1],?_⟩;rw[List.zip_cons_cons,List.all_cons];rw[zaO];exact⟨bitsB_same n ha,i2⟩
 |[],_::_,h=>by simp[bitsL]at h
 |_::_,[],h=>by simp[bitsL]at h
theorem zJn{td:TypeDesc}{x y:Value}(n:Nat)(h:Instr.sameNow td x y=some true):Instr.sameBits n x y=true:=by
 unfold Instr.sameNow at h;split at h
 · split at h
   ·rename_i hk;subst hk;simp only[zaf]at h;cases n<;>simpa[Instr.sameBits]using h
   ·cases h
 ·simp only[zaf]at h;cases n<;>simpa[Instr.sameBits]using h
 ·simp only[zaf]at h;cases n<;>simpa[Instr.sameBits]using h
 ·cases h
section
variable{P:Program}{S:Nat->Prop}{κ:Kap}{D:Nat->Prop}{w:World}
theorem scalT_agg{t:TypeId}(h:scalT P t=true):isAggB P t=some false:=by
 unfold scalT at h;split at h
 ·rename_i hu;exact zj0 hu
 ·rename_i hu;exact zj0 hu
 ·rename_i hu;exact zj0 hu
 ·cases h
theorem ztt{t:TypeId}(h:scalT P t=true)(em:Bool)(n:Nat)(x:Value)(w:World):(Instr.checkKey em (n+1) t x).run P w=.ok () w:=by
 unfold scalT at h;split at h
 ·rename_i hu;simp[Instr.checkKey,run_underlying hu]
 ·rename_i hu;simp[Instr.checkKey,run_underlying hu]
 ·rename_i hu;simp[Instr.checkKey,run_underlying hu]
 ·cases h
theorem zGX{t:TypeId}(h:scalT P t=true){arr:Array Value}{off:Nat}(ho:off<arr.size)(w:World):(part t arr off).run P w=.ok arr[off] w:=by simp only[part,Sem.run_bind,zov (scalT_agg h),Result.andThen_ok,zbt,if_false,zaU ho,Sem.run_pure]
theorem keyAV_val{t:TypeId}{k:AV}{x:Value}(h:keyAV P t k=true)(hr:VRel S κ D w k x):CRel S w k x:=by
 unfold keyAV at h;split at h
 ·rw[hr.v_inv];exact .v _
 · rename_i cs;split at h
   ·rename_i xs fs hm hu;obtain⟨vs,rfl,hl,h1,hp⟩:=hr.agg_inv;refine .agg cs vs hl h1 (λj c x hc hx=>?_);obtain⟨_,h2⟩:=zmq hm;obtain⟨b,_,hb⟩:=h2 j c hc;have:=zyM hb (hp j c x hc hx);cases c<;>simp[AV.scal]at hb;subst hb;rw[this];exact .v _
   ·rename_i xs n e hm hu;obtain⟨vs,rfl,hl,h1,hp⟩:=hr.agg_inv;refine .agg cs vs hl h1 (λj c x hc hx=>?_);obtain⟨_,h2⟩:=zmq hm;obtain⟨b,_,hb⟩:=h2 j c hc;have:=zyM hb (hp j c x hc hx);cases c<;>simp[AV.scal]at hb;subst hb;rw[this];exact .v _
   ·cases h
 ·cases h
theorem zwB{t:TypeId}{k:AV}{x:Value}(h:keyAV P t k=true)(hr:VRel S κ D w k x)(em:Bool)(w':World):(Instr.checkKey em 10000 t x).run P w'=.ok () w':=by
 unfold keyAV at h;split at h
 ·simp only[zaO]at h;exact ztt h.1 em 9999 x w'
 · rename_i cs;split at h
   · rename_i xs fs hm hu;simp only[zaO,zbH,decide_eq_true_eq]at h;have ex:=znA hm hr;subst ex
     have key:∀(l:List Field),(∀f∈l,scalT P f.type=true/\f.offset<xs.length)->∀w':World,(forIn (m:=Sem) l PUnit.unit (λf _=>do
        if f.name ≠ "_" then Instr.checkKey em 9999 f.type (<-part f.type xs.toArray f.offset)
        pure (ForInStep.yield PUnit.unit))).run P w'=.ok PUnit.unit w':=by
      intro l
      induction l with
      |nil=>intro _ w';simp
      |cons f l ih =>
        intro hf w';obtain⟨f1,f2⟩:=hf f (by simp);have ihl:=ih (λg hg=>hf g (by simp[hg])) w';rw[List.forIn_cons];by_cases hn:f.name = "_"
        ·simp_all
        ·simp only[hn,ne_eq,not_false_eq_true,if_true,Sem.run_bind,zGX f1 (arr:=xs.toArray) (by simpa using f2) w',Result.andThen_ok,ztt f1 em 9998,Sem.run_pure];exact ihl
     have:=key fs.toList h.2 w';rw[show(10000:Nat)=9999+1 from rfl,Instr.checkKey];simp only[Sem.run_bind,run_underlying hu,Result.andThen_ok]
     simp_all
   · rename_i xs n e hm hu;simp only[zaO,decide_eq_true_eq,beq_iff_eq]at h;obtain⟨h1,h2,h3,h4⟩:=h;have ex:=znA hm hr;subst ex
     have key:∀(l:List Nat),(∀i∈l,i<xs.length)->∀w':World,(forIn (m:=Sem) l PUnit.unit (λi _=>do
        Instr.checkKey em 9999 e (<-part e xs.toArray (i*(<-sizeOf e)))
        pure (ForInStep.yield PUnit.unit))).run P w'=.ok PUnit.unit w':=by
      intro l
      induction l with
      |nil=>intro _ w';simp
      |cons i l ih=>intro hf w';have f2:=hf i (by simp);have ihl:=ih (λg hg=>hf g (by simp[hg])) w';rw[List.forIn_cons];simp only[Sem.run_bind,zd7 h3,Result.andThen_ok,Nat.mul_one,zGX h2 (arr:=xs.toArray) (by simpa using f2) w',ztt h2 em 9998,Sem.run_pure];exact ihl
     have:=key (List.range' 0 n) (λi hi=>by grind) w';rw[show(10000:Nat)=9999+1 from rfl,Instr.checkKey];simp only[Sem.run_bind,run_underlying hu,Result.andThen_ok]
     simp_all
   ·cases h
 ·cases h
theorem zsm{t:TypeId}{k:AV}{x:Value}{es:List (List AV)}{en:List MapEntry}{o:Option Nat}(hF:First P t k es o)(hr:VRel S κ D w k x)(hlen:en.length=es.length)
  (hk:∀(i:Nat) (ka va:AV) (e:MapEntry),es[i]?=some [ka,va]->en[i]?=some e->CRel S w ka e.key) (hkey:keyAV P t k=true) (w':World):∃q:Option (Nat×Value),(Instr.findKey t x en).run P w'=.ok q w'/\(match o with
   |none=>q=none
   |some j=>∃e,en[j]?=some e/\q=some (j,e.val)/\Instr.sameBits 10000 e.key x=true):=by
 unfold keyAV at hkey;split at hkey
 · rename_i y;have hx:=hr.v_inv;subst hx;simp only[zaO]at hkey
   obtain⟨td,hu⟩:∃td,P.underlying t=some td:=by
    have:=hkey.1;unfold scalT at this
    grind
   have hne:∀ka:AV,∀r,keyEq P t (.v x) ka=some r->∃z,ka=.v z/\Instr.sameNow td x z=some r:=by intro ka r h;cases ka<;>simp[keyEq,hu]at h;exact⟨_,rfl,h⟩
   have sym:∀{td:TypeDesc} {a b:Value},Instr.sameNow td a b=some true->Instr.sameBits 10000 b a=true:=by
    intro td a b h;refine zJn 10000 (td:=td) ?_;unfold Instr.sameNow at h ⊢;split at h
    ·simp_all
    ·simp only[zaf]at h;simp[MapKept.bytes_beq]at h ⊢;rw[h]
    ·simp_all
    ·cases h
   have main:∀(es:List (List AV)) (en:List MapEntry) (o:Option Nat) (s:Nat),First P t (.v x) es o->en.length=es.length->(∀(i:Nat) (ka va:AV) (e:MapEntry),es[i]?=some [ka,va]->en[i]?=some e->CRel S w ka e.key)->∃q,Instr.findNow td x en s=some q/\(match o with
      |none=>q=none
      |some j=>∃e,en[j]?=some e/\q=some (s+j,e.val)/\Instr.sameBits 10000 e.key x=true):=by
    intro es
    induction es with
    |nil =>
      intro en o s hF hl _;have:en=[]:=List.length_eq_zero_iff.1 (by simpa using hl);subst this
      cases o with
      |none=>exact⟨none,rfl,rfl⟩
      |some j=>obtain⟨⟨ka,va,h,_⟩,_⟩:=hF;simp at h
    |cons cs es ih =>
      intro en o s hF hl hk
      cases en with
      |nil=>simp at hl
      |cons e en =>
        have hk':∀(i:Nat) (ka va:AV) (e:MapEntry),es[i]?=some [ka,va]->en[i]?=some e->CRel S w ka e.key:=λi ka va e h1 h2=>hk (i+1) ka va e (by simpa using h1) (by simpa using h2)
        cases o with
        |none=>obtain⟨ka,va,rfl,he⟩:=hF cs (by simp);obtain⟨z,rfl,hz⟩:=hne ka false he;have hc:=hk 0 _ va e rfl rfl;cases hc;obtain⟨q,h1,h2⟩:=ih en none (s+1) (λc hc=>hF c (by simp[hc])) (by simpa using hl) hk';exact⟨q,by simp only[Instr.findNow,hz];exact h1,h2⟩
        |some j =>
          cases j with
          |zero=>obtain⟨⟨ka,va,h1,he⟩,_⟩:=hF;simp only[zbR,zaf]at h1;subst h1;obtain⟨z,rfl,hz⟩:=hne ka true he;have hc:=hk 0 _ va e rfl rfl;cases hc;exact⟨some (s,e.val),by simp only[Instr.findNow,hz],e,rfl,rfl,sym hz⟩
          |succ j =>
            obtain⟨⟨ka,va,h1,he⟩,h3⟩:=hF;obtain⟨k0,v0,g1,g2⟩:=h3 0 (by omega);simp only[zbR,zaf]at g1;subst g1;obtain⟨z,rfl,hz⟩:=hne k0 false g2;have hc:=hk 0 _ v0 e rfl rfl;cases hc;obtain⟨q,h1',h2'⟩:=ih en (some j) (s+1) ⟨⟨ka,va,by simpa using h1,he⟩,λi hi=>by grind⟩ (by simpa using hl) hk';refine⟨q,by simp only[Instr.findNow,hz];exact h1',?_⟩
            grind
   obtain⟨q,h1,h2⟩:=main es en o 0 hF hlen hk;refine⟨q,MapKept.run_findKey hu h1,?_⟩
   grind
 · rename_i cs
   have hwide:(match P.underlying t with|some (.array _ _)|some (.struct _)=>true|_=>false)=true/\∃xs,mapO AV.scal cs=some xs:=by
    split at hkey
    ·simp_all
    ·simp_all
    ·cases hkey
   obtain⟨hwide,xs,hm⟩:=hwide;have ex:=znA hm hr;subst ex
   have hne:∀ka:AV,∀r,keyEq P t (.agg cs) ka=some r->∃ds ys,ka=.agg ds/\mapO AV.scal ds=some ys/\isAggB P t=some true/\eqV P 20 t xs ys=some r/\bitsL xs ys=some r:=by
    intro ka r h;cases ka<;>simp only[keyEq,hm]at h<;>try(cases h;done)
    rename_i ds
    cases hd:mapO AV.scal ds with
    |none=>simp[hd]at h
    |some ys =>
      simp only[hd]at h;split at h
      · rename_i ha;refine⟨ds,ys,rfl,hd,ha,?_⟩;unfold agree at h
        grind
      ·cases h
   have run1:∀(ka:AV) (r:Bool) (y:Value) (w':World),keyEq P t (.agg cs) ka=some r->CRel S w ka y->(Op.equal t (.agg xs.toArray) y).run P w'=.ok r w'/\(r=true->Instr.sameBits 10000 y (.agg xs.toArray)=true):=by
    intro ka r y w' he hc;obtain⟨ds,ys,rfl,hd,ha,h1,h2⟩:=hne ka r he;have ey:=znA (κ:=κ) (D:=D) hd (.c hc);subst ey;refine⟨?_,λhr=>?_⟩
    ·have:=zAP (P:=P) 20 t xs ys r h1 9980 _ _ w' (.inl ⟨ha,rfl⟩) (.inl ⟨ha,rfl⟩);rw[show(9980+20:Nat)=Op.maxDepth from rfl]at this;exact this
    · subst hr
      have hsym:bitsL ys xs=some true:=by
       clear h1 hd ha hm he hr hc hkey hF hk hlen hne
       induction xs generalizing ys with
       |nil=>cases ys with
         |nil=>rfl
         |cons _ _=>simp[bitsL]at h2
       |cons a xs ih=>cases ys with
         |nil=>simp[bitsL]at h2
         |cons b ys =>
           simp only[bitsL]at h2 ⊢;obtain⟨p,q,hp,hq,hpq⟩:=zt7 h2;have h1:p=true:=by cases p<;>simp at hpq ⊢
           have h2':q=true:=by cases q<;>simp[h1]at hpq ⊢
           subst h1;subst h2';rw[ih ys hq]
           have:bitsB b a=some true:=by
            unfold bitsB at hp ⊢;split at hp
            ·grind
            ·simp only[zaf]at hp;simp[MapKept.bytes_beq]at hp ⊢;rw[hp]
            ·grind
            ·cases hp
           rw[this];rfl
      obtain⟨e1,e2⟩:=zEA 9999 hsym;show Instr.sameBits (9999+1) _ _=true;simp only[Instr.sameBits,zaO]
      simp_all
   have main:∀(es:List (List AV)) (en:List MapEntry) (o:Option Nat) (s:Nat),First P t (.agg cs) es o->en.length=es.length->(∀(i:Nat) (ka va:AV) (e:MapEntry),es[i]?=some [ka,va]->en[i]?=some e->CRel S w ka e.key)->∃q,(Instr.findAsking t (.agg xs.toArray) en s).run P w'=.ok q w'/\(match o with
      |none=>q=none
      |some j=>∃e,en[j]?=some e/\q=some (s+j,e.val)/\Instr.sameBits 10000 e.key (.agg xs.toArray)=true):=by
    intro es
    induction es with
    |nil =>
      intro en o s hF hl _;have:en=[]:=List.length_eq_zero_iff.1 (by simpa using hl);subst this
      cases o with
      |none=>exact⟨none,by simp[Instr.findAsking],rfl⟩
      |some j=>obtain⟨⟨ka,va,h,_⟩,_⟩:=hF;simp at h
    |cons c0 es ih =>
      intro en o s hF hl hk
      cases en with
      |nil=>simp at hl
      |cons e en =>
        have hk':∀(i:Nat) (ka va:AV) (e:MapEntry),es[i]?=some [ka,va]->en[i]?=some e->CRel S w ka e.key:=λi ka va e h1 h2=>hk (i+1) ka va e (by simpa using h1) (by simpa using h2)
        cases o with
        |none=>obtain⟨ka,va,rfl,he⟩:=hF c0 (by simp);obtain⟨r1,_⟩:=run1 ka false e.key w' he (hk 0 _ va e rfl rfl);obtain⟨q,h1,h2⟩:=ih en none (s+1) (λc hc=>hF c (by simp[hc])) (by simpa using hl) hk';exact⟨q,by simp only[Instr.findAsking,Sem.run_bind,r1,Result.andThen_ok,zbt,if_false];exact h1,h2⟩
        |some j =>
          cases j with
          |zero=>obtain⟨⟨ka,va,h1,he⟩,_⟩:=hF;simp only[zbR,zaf]at h1;subst h1;obtain⟨r1,r2⟩:=run1 ka true e.key w' he (hk 0 _ va e rfl rfl);exact⟨some (s,e.val),by simp only[Instr.findAsking,Sem.run_bind,r1,Result.andThen_ok,if_true,Sem.run_pure],e,rfl,rfl,r2 rfl⟩
          |succ j =>
            obtain⟨⟨ka,va,h1,he⟩,h3⟩:=hF;obtain⟨k0,v0,g1,g2⟩:=h3 0 (by omega);simp only[zbR,zaf]at g1;subst g1;obtain⟨r1,_⟩:=run1 k0 false e.key w' g2 (hk 0 _ v0 e rfl rfl);obtain⟨q,h1',h2'⟩:=ih en (some j) (s+1) ⟨⟨ka,va,by simpa using h1,he⟩,λi hi=>by grind⟩ (by simpa using hl) hk';refine⟨q,by simp only[Instr.findAsking,Sem.run_bind,r1,Result.andThen_ok,zbt,if_false];exact h1',?_⟩
            grind
   obtain⟨q,h1,h2⟩:=main es en o 0 hF hlen hk;refine⟨q,?_,?_⟩
   ·rw[run_findKey_eq w' hwide];exact h1
   grind
 ·cases hkey
theorem zKy{t:TypeId}{a:AV}(h:zeroA P t=some a)(w:World):∃z,(zeroValue t).run P w=.ok z w/\CRel S w a z:=by
 unfold zeroA at h
 cases hi:P.info? t with
 |none=>simp[hi]at h
 |some i =>
   cases hz:i.zero with
   |none=>simp[hi,hz]at h
   |some z =>
     simp only[hi,zae,hz]at h;refine⟨z,zjI hi hz,?_⟩
     have nrmC:∀{a:AV} {x:Value},CRel S w a x->CRel S w (nrm P t a) x:=by
      intro a x hr;unfold nrm;split
      · rename_i cs
        cases hr with
        |agg _ vs hl h1 hp =>
          refine .agg _ vs (by rw[zlD];exact hl) h1 (λj c x hj hx=>?_);obtain⟨a,ha,hc⟩:=zst P _ _ j c hj;rcases hc with rfl|⟨t',rfl⟩
          ·exact hp j _ x ha hx
          ·exact zs3 (hp j _ x ha hx)
      ·exact zs3 hr
     split at h
     · rename_i cs heq;simp only[zaf]at heq;subst heq;split at h
       ·rename_i h1;simp only[zaf]at h;subst h;obtain⟨c1,c2,c3⟩:=znb (z:=.agg cs) (S:=S) (w:=w) h1;exact nrmC (.agg _ _ c1 c2 c3)
       ·cases h
     · rename_i x hne heq;simp only[zaf]at heq;subst heq;split at h
       ·simp only[zaf]at h;subst h;exact nrmC (.v _)
       ·cases h
     simp_all
theorem zGQ{L:Nat->Option Ent}{m:AV}{x:Value}{es:List (List AV)}(h:mesOf L m=some es)(hx:VRel S κ D w m x)(hL:∀b ent,L b=some ent->EntAt S κ D w (κ b) ent):(x=.map none/\es=[])\/∃g en clock,x=.map (some g)/\w.heap[g]?=some (.map en clock)/\en.size=es.length/\(∀cs∈es,∃k v,cs=[k,v])/\∀(i:Nat) (k v:AV) (e:MapEntry),es[i]?=some [k,v]->en[i]?=some e->CRel S w k e.key/\CRel S w v e.val:=by
 unfold mesOf at h;split at h
 ·simp only[zaf]at h;exact .inl ⟨hx.v_inv,h.symm⟩
 · simp only[zaf]at h;subst h;have:=hx.mp_inv
   cases this with
   |mp _ g en clock hS hg hl hb hi h2 hk hv=>grind
 · rename_i b;split at h
   case h_2=>cases h
   rename_i ent hl;split at h
   case isFalse=>cases h
   rename_i hz;simp only[zaf]at h;subst h;obtain⟨g,c,hd,hk,rfl⟩:=hx.map_inv;obtain⟨g',c',en,clock,hk',hn,hg,hlen,h1,h2,h3,h4⟩:=(hL b ent hl).2 (zxs hz.1 hz.2)
   grind
 ·cases h
theorem mres_rel{ok b:Bool}{a:AV}{x:Value}(h:CRel S w a x):VRel S κ D w (mres ok a b) (if ok then .tuple #[x,.bool b]else x):=by
 unfold mres
 cases ok with
 |false=>exact .c h
 |true =>
   refine .c (.tup _ _ rfl (λj c y hj hy=>?_))
   match j with
   |0=>simp_all
   |1=>simp at hj hy;subst hj;subst hy;exact .v _
   |j+2=>simp at hj
theorem zIk{L:Nat->Option Ent}{t:TypeId}{m k:AV}{ok:Bool}{r:Res}{vm vk:Value}(h:aMLook P L t m k ok=some r)(hm:VRel S κ D w m vm)(hk:VRel S κ D w k vk)
  (hL:∀b ent,L b=some ent->EntAt S κ D w (κ b) ent):∃y,(Instr.lookup t vm vk ok).run P w=.ok y w/\VRel S κ D w r.val y/\r.set=[]/\r.kill=none/\r.frz=[]/\r.re=[]:=by
 unfold aMLook at h;split at h
 case h_2=>cases h
 rename_i kt et hu;split at h
 case h_2=>cases h
 rename_i es z hes hz;split at h
 case isFalse=>cases h
 rename_i hkey;obtain⟨zv,hz1,hz2⟩:=zKy (S:=S) hz w
 obtain⟨en,hen,hrel⟩:∃en:Array MapEntry,(vm=.map none/\en=#[]\/∃g clock,vm=.map (some g)/\w.heap[g]?=some (.map en clock))/\en.size=es.length/\∀(i:Nat) (k v:AV) (e:MapEntry),es[i]?=some [k,v]->en[i]?=some e->CRel S w k e.key/\CRel S w v e.val:=by
  rcases zGQ hes hm hL with⟨rfl,rfl⟩|⟨g,en,clock,rfl,hg,hl,_,h4⟩
  ·simp_all
  grind
 have hlook:∀q,(Instr.findKey kt vk en.toList).run P w=.ok q w->(Instr.lookup t vm vk ok).run P w=.ok (match q with
   |some (_,v)=>if ok then .tuple #[v,.bool true]else v
   |none=>if ok then .tuple #[zv,.bool false]else zv) w:=by
  intro q hq;have hc:=zwB hkey hk en.isEmpty w;rcases hen with⟨rfl,rfl⟩|⟨g,clock,rfl,hg⟩
  · simp only[Instr.lookup,Sem.run_bind,run_underlying hu,Result.andThen_ok,Sem.run_pure,hc,hq]
    cases q with
    |none=>simp[hz1]
    |some p=>simp
  · simp only[Instr.lookup,Sem.run_bind,run_underlying hu,Result.andThen_ok,MapKept.run_getObj_map hg,Sem.run_pure,hc,hq]
    cases q with
    |none=>simp[hz1]
    |some p=>simp
 split at h
 · rename_i a hml;simp only[zaf]at h;subst h;rcases zyy hml with⟨h1,_⟩|⟨j,ka,va,h1,h2,h3⟩
   ·cases h1
   ·simp only[zaf]at h1;subst h1;obtain⟨q,q1,e,q2,q3,_⟩:=zsm h3 hk (zc2.trans hrel.1) (λi ka va e h1 h2=>(hrel.2 i ka va e h1 (by simpa using h2)).1) hkey w;subst q3;exact⟨_,hlook _ q1,mres_rel (hrel.2 j ka a e h2 (by simpa using q2)).2,rfl,rfl,rfl,rfl⟩
 · rename_i hml;simp only[zaf]at h;subst h;rcases zyy hml with⟨_,h2⟩|⟨j,ka,va,h1,_,_⟩
   ·obtain⟨q,q1,q2⟩:=zsm h2 hk (zc2.trans hrel.1) (λi ka va e h1 h2=>(hrel.2 i ka va e h1 (by simpa using h2)).1) hkey w;simp only at q2;subst q2;exact⟨_,hlook _ q1,mres_rel hz2,rfl,rfl,rfl,rfl⟩
   ·cases h1
 ·cases h
theorem zJC{L:Nat->Option Ent}{t ty:TypeId}{m:AV}{r:Res}{vm:Value}{k e:TypeId}(hu:P.underlying t=some (.map k e))(h:aMLen L m=some r)(hm:VRel S κ D w m vm)
  (hL:∀b ent,L b=some ent->EntAt S κ D w (κ b) ent):∃y,(Builtin.len_ #[t] ty #[vm]).run P w=.ok y w/\VRel S κ D w r.val y/\r.set=[]/\r.kill=none/\r.frz=[]/\r.re=[]:=by
 unfold aMLen at h;split at h
 case h_2=>cases h
 rename_i es hes;simp only[zaf]at h;subst h;rcases zGQ hes hm hL with⟨rfl,rfl⟩|⟨g,en,clock,rfl,hg,hl,_,_⟩
 ·exact⟨.int .i64 0,by simp[Builtin.len_,run_underlying hu,goInt],.c (.v _),rfl,rfl,rfl,rfl⟩
 ·exact⟨.int .i64 es.length,by simp[Builtin.len_,run_underlying hu,goInt,MapKept.run_getObj_map hg,hl],.c (.v _),rfl,rfl,rfl,rfl⟩
theorem zIm{t:TypeId}{d:Nat}{r:Res}(hS:∀g,S g->g<w.heap.size)(hd:¬D d)(h:aMkMap P d t=some r):∃y w' κ',(Instr.makeMap t none).run P w=.ok y w'/\EffAt S κ D w S κ' r y w'/\r.frz=[]:=by
 unfold aMkMap at h;split at h
 case h_2=>cases h
 simp only[zaf]at h;subst h;have hold:∀g,g<w.heap.size->(w.alloc (.map #[] 0)).heap[g]?=w.heap[g]?:=λg hg=>Below.heap_alloc w _ g hg
 refine⟨.map (some w.heap.size),w.alloc (.map #[] 0),λb=>if b=d then some (w.heap.size,0)else κ b,?_,?_,rfl⟩
 ·simp[Instr.makeMap]
 ·exact{
    os:=rfl
    tape:=rfl
    output:=.of
    size:=by simp
    blk:=λg hg _=>hold g hg
    sup:=λ_ h=>h
    snew:=λ_ h=>.inl h
    slt:=λg hg=>by grind
    sfrz:=λb hb=>by cases hb
    kold:=λb hb _=>if_neg (λe=>hd (by subst e;exact hb))
    kout:=λb hb=>if_neg (λe=>hb (by simp[ids,e]))
    knew:=λb _ hb g c' h=>by
     simp[ids]at hb
     simp_all
    one:=λb b' _ _ h1 h2 _ _ _ _ _=>by simp[ids]at h1 h2;rw[h1,h2]
    res:=λb hb=>by cases hb
    ents:=λb e hb=>by simp at hb;obtain⟨rfl,rfl⟩:=hb;refine EntAt.ofMap rfl rfl ⟨w.heap.size,0,#[],0,by simp,λh=>by have:=hS _ h;omega,heap_alloc_new w _,rfl,by simp,by simp,by simp,by simp⟩
    val:=.map d w.heap.size 0 (.inr (by simp[ids])) (by simp) }
theorem EffAt.mapSet{b g c:Nat}{ent:Ent}{es:List (List AV)}{cur:Obj}{en:Array MapEntry}{clock:Nat}{fz:List Nat}{val:AV}{y:Value}(hS:∀g,S g->g<w.heap.size)(hd:D b)(hκ:κ b=some (g,c))
  (h0:ent.z=0) (hbx:ent.box=false) (hg:w.heap[g]?=some cur) (hnS:¬S g) (hfz:∀b'∈fz,D b'/\b'≠b) (hfl:∀b'∈fz,∀g' c',κ b'=some (g',c')->g'<w.heap.size)
  (hinj:∀b b' g c c',D b->D b'->κ b=some (g,c)->κ b'=some (g,c')->b=b')
  (hlen:en.size=es.length) (h1:∀(i:Nat) (e:MapEntry),en[i]?=some e->e.born<clock) (h2:∀(i j:Nat) (e f:MapEntry),i<j->en[i]?=some e->en[j]?=some f->e.born<f.born) (h3:∀cs∈es,∃k v,cs=[k,v])
  (h4:∀(i:Nat) (k v:AV) (e:MapEntry),es[i]?=some [k,v]->en[i]?=some e->CRel (λg'=>S g'\/∃b' c',b'∈fz/\κ b'=some (g',c')) w k e.key/\CRel (λg'=>S g'\/∃b' c',b'∈fz/\κ b'=some (g',c')) w v e.val)
  (hv:∀(S':Nat->Prop) (κ':Kap) (D':Nat->Prop) (w':World),VRel S' κ' D' w' val y):EffAt S κ D w (λg'=>S g'\/∃b' c',b'∈fz/\κ b'=some (g',c')) κ { val:=val,set:=[(b,{ ent with es:=es })],frz:=fz } y { w with heap:=w.heap.setIfInBounds g (.map en clock) }:=by
 have hset:=MapKept.heap_set (w:=w) (o':=.map en clock) hg
 have hne:∀g',(S g'\/∃b' c',b'∈fz/\κ b'=some (g',c'))->g'≠g:=by
  intro g' h e;subst e;rcases h with h|⟨b',c',hb,hk⟩
  ·exact hnS h
  ·grind
 exact{
  os:=rfl
  tape:=rfl
  output:=.of
  size:=by simp
  blk:=λg' _ hb=>hset.2 g' (λe=>hb b c (.inl (by simp[ids])) hd (by rw[e];exact hκ))
  sup:=λ_ h=>.inl h
  snew:=λg' h=>by grind
  slt:=λg' h=>by grind
  sfrz:=λb' hb g' c' hk=>.inr ⟨b',c',hb,hk⟩
  kold:=λ_ _ _=>rfl
  kout:=λ_ _=>rfl
  knew:=λb' h hb=>by
   simp[ids]at hb
   simp_all
  one:=λb' b'' h _ hb=>by
   simp[ids]at hb
   simp_all
  res:=λb hb=>by cases hb
  ents:=λb' e hb=>by simp at hb;obtain⟨rfl,rfl⟩:=hb;refine EntAt.ofMap h0 hbx ⟨g,c,en,clock,hκ,λh=>hne g h rfl,hset.1,hlen,h1,h2,h3,λi k v e hi he=>?_⟩;obtain⟨q1,q2⟩:=h4 i k v e hi he;exact⟨q1.mono (λ_ h=>h) (λg' h=>hset.2 g' (hne g' h)),q2.mono (λ_ h=>h) (λg' h=>hset.2 g' (hne g' h))⟩
  val:=hv _ _ _ _ }
theorem zCi{L:Nat->Option Ent}{t:TypeId}{m k x:AV}{r:Res}{vm vk vx:Value}(hS:∀g,S g->g<w.heap.size)(hDL:∀b,D b↔(L b).isSome=true)
  (hinj:∀b b' g c c',D b->D b'->κ b=some (g,c)->κ b'=some (g,c')->b=b') (h:aMSet P L t m k x=some r) (hm:VRel S κ D w m vm) (hk:VRel S κ D w k vk) (hx:VRel S κ D w x vx)
  (hL:∀b ent,L b=some ent->EntAt S κ D w (κ b) ent):∃w' S',(Instr.mapUpdate t vm vk vx).run P w=.ok () w'/\(∀y,EffAt S κ D w S' κ r y w')/\Dis D r:=by
 unfold aMSet at h;split at h
 case h_2=>cases h
 rename_i kt et hu;split at h
 case h_2=>cases h
 rename_i b;split at h
 case h_2=>cases h
 rename_i ent hl;split at h
 case isFalse=>cases h
 rename_i hc;obtain⟨h0,hbx,hkey,hids⟩:=hc;split at h
 case h_2=>cases h
 rename_i x' hsn;split at h
 case isFalse=>cases h
 split at h
 case h_2=>cases h
 rename_i es hms;simp only[zaf]at h;subst h;obtain⟨g,c,hd,hkb,rfl⟩:=hm.map_inv;obtain⟨g',c',en,clock,hk',hn,hg,hlen,h1,h2,h3,h4⟩:=(hL b ent hl).2 (zxs h0 hbx);rw[hkb]at hk';simp only[zaf,zav]at hk';obtain⟨rfl,rfl⟩:=hk'
 have hfz:∀b'∈x.ids L 5,D b'/\b'≠b:=λb' hb=>by have:=zbH.1 hids b' hb;simp only[zaO,bne_iff_ne]at this;exact⟨ids_D hL 5 x vx hx b' hb,this.2⟩
 have hfl:∀b'∈x.ids L 5,∀g' c',κ b'=some (g',c')->g'<w.heap.size:=λb' hb g' c' hk'=>by obtain⟨ent',he'⟩:=zaI.1 ((hDL b').1 (hfz b' hb).1);have:=hL b' ent' he';rw[hk']at this;exact this.lt
 have hxv:CRel (λg'=>S g'\/∃b' c',b'∈x.ids L 5/\κ b'=some (g',c')) w x' vx:=
  zlo hL (λg h=>.inl h) 5 (zuu hx) hsn (λb' hb g c hk=>.inr ⟨b',c,by rw[nrm_ids]at hb;exact hb,hk⟩)
 have hkv:CRel (λg'=>S g'\/∃b' c',b'∈x.ids L 5/\κ b'=some (g',c')) w k vk:=(keyAV_val hkey hk).mono (λg h=>.inl h) (λ_ _=>rfl)
 have h4':∀(i:Nat) (k v:AV) (e:MapEntry),ent.es[i]?=some [k,v]->en[i]?=some e->CRel (λg'=>S g'\/∃b' c',b'∈x.ids L 5/\κ b'=some (g',c')) w k e.key/\CRel (λg'=>S g'\/∃b' c',b'∈x.ids L 5/\κ b'=some (g',c')) w v e.val:=
  λi k v e hi he=>⟨(h4 i k v e hi he).1.mono (λg h=>.inl h) (λ_ _=>rfl),(h4 i k v e hi he).2.mono (λg h=>.inl h) (λ_ _=>rfl)⟩
 have hck:=zwB hkey hk false w;have dis:Dis D { val:=.bot,set:=[(b,{ ent with es:=es })],frz:=x.ids L 5 }:=λb' hb=>⟨(hfz b' hb).1,by simp[ids];exact(hfz b' hb).2,by simp⟩
 rcases zGS hms with⟨hF,rfl⟩|⟨j,hF,rfl⟩
 · obtain⟨q,q1,q2⟩:=zsm hF hk (zc2.trans hlen) (λi ka va e h1 h2=>(h4 i ka va e h1 (by simpa using h2)).1) hkey w;simp only at q2;subst q2;refine⟨{ w with heap:=w.heap.setIfInBounds g (.map (en.push { key:=vk,val:=vx,born:=clock }) (clock+1)) },_,?_,λy=>EffAt.mapSet hS hd hkb h0 hbx hg hn hfz hfl hinj ?_ ?_ ?_ ?_ ?_ (λ_ _ _ _=>.bot y),dis⟩
   ·simp only[Instr.mapUpdate,Sem.run_bind,run_underlying hu,Result.andThen_ok,MapKept.run_getObj_map hg,hck,q1,MapKept.run_setObj_map _ hg]
   ·simp[hlen]
   ·grind
   ·grind
   ·grind
   grind
 · obtain⟨q,q1,e0,q2,q3,q4⟩:=zsm hF hk (zc2.trans hlen) (λi ka va e h1 h2=>(h4 i ka va e h1 (by simpa using h2)).1) hkey w;subst q3;have q2':en[j]?=some e0:=by simpa using q2
   have hjlt:=(zcM.1 q2').1
   have hgetm:∀(i:Nat) (e:MapEntry),(en.modify j λe=>{ e with key:=vk,val:=vx })[i]?=some e->(i=j/\e={ e0 with key:=vk,val:=vx })\/(i≠j/\en[i]?=some e):=by
    intro i e he;rw[Array.getElem?_modify]at he;split at he
    ·simp_all
    ·grind
   refine⟨{ w with heap:=w.heap.setIfInBounds g (.map (en.modify j λe=>{ e with key:=vk,val:=vx }) clock) },_,?_,λy=>EffAt.mapSet hS hd hkb h0 hbx hg hn hfz hfl hinj ?_ ?_ ?_ ?_ ?_ (λ_ _ _ _=>.bot y),dis⟩
   ·simp only[Instr.mapUpdate,Sem.run_bind,run_underlying hu,Result.andThen_ok,MapKept.run_getObj_map hg,hck,q1,Instr.keyThatStays,q2',zbg,zbN,q4,if_true,Sem.run_pure,MapKept.run_setObj_map _ hg]
   ·simp[hlen]
   ·grind
   ·grind
   ·grind
   grind
theorem zJB{L:Nat->Option Ent}{t ty:TypeId}{ts:Array TypeId}{m k:AV}{r:Res}{vm vk:Value}(hS:∀g,S g->g<w.heap.size)
  (hinj:∀b b' g c c',D b->D b'->κ b=some (g,c)->κ b'=some (g,c')->b=b') (hts:ts[0]?=some t) (h:aMDel P L t m k=some r) (hm:VRel S κ D w m vm) (hk:VRel S κ D w k vk)
  (hL:∀b ent,L b=some ent->EntAt S κ D w (κ b) ent):∃y w' S',(Builtin.delete_ ts ty #[vm,vk]).run P w=.ok y w'/\EffAt S κ D w S' κ r y w'/\r.frz=[]:=by
 unfold aMDel at h;split at h
 case h_2=>cases h
 rename_i kt et hu;split at h
 case h_2=>cases h
 rename_i b;split at h
 case h_2=>cases h
 rename_i ent hl;split at h
 case isFalse=>cases h
 rename_i hc;obtain⟨h0,hbx,hkey⟩:=hc;split at h
 case h_2=>cases h
 rename_i es hms;simp only[zaf]at h;subst h;obtain⟨g,c,hd,hkb,rfl⟩:=hm.map_inv;obtain⟨g',c',en,clock,hk',hn,hg,hlen,h1,h2,h3,h4⟩:=(hL b ent hl).2 (zxs h0 hbx);rw[hkb]at hk';simp only[zaf,zav]at hk';obtain⟨rfl,rfl⟩:=hk'
 have h4':∀(i:Nat) (k v:AV) (e:MapEntry),ent.es[i]?=some [k,v]->en[i]?=some e->CRel (λg'=>S g'\/∃b' c',b'∈([]:List Nat)/\κ b'=some (g',c')) w k e.key/\CRel (λg'=>S g'\/∃b' c',b'∈([]:List Nat)/\κ b'=some (g',c')) w v e.val:=
  λi k v e hi he=>⟨(h4 i k v e hi he).1.mono (λg h=>.inl h) (λ_ _=>rfl),(h4 i k v e hi he).2.mono (λg h=>.inl h) (λ_ _=>rfl)⟩
 have hck:=zwB hkey hk en.isEmpty w;have hv:∀(S':Nat->Prop) (κ':Kap) (D':Nat->Prop) (w':World),VRel S' κ' D' w' (.tup []) (.tuple #[]):=λ_ _ _ _=>.c (.tup [] #[] rfl (λj c x hj=>by simp at hj))
 rcases zGO hms with⟨hF,rfl⟩|⟨j,hF,rfl⟩
 ·obtain⟨q,q1,q2⟩:=zsm hF hk (zc2.trans hlen) (λi ka va e h1 h2=>(h4 i ka va e h1 (by simpa using h2)).1) hkey w;simp only at q2;subst q2;refine⟨.tuple #[],{ w with heap:=w.heap.setIfInBounds g (.map en clock) },_,?_,EffAt.mapSet (fz:=[]) hS hd hkb h0 hbx hg hn (by simp) (by simp) hinj hlen h1 h2 h3 h4' hv,rfl⟩;simp[Builtin.delete_,hts,run_underlying hu,MapKept.run_getObj_map hg,-Array.isEmpty_iff,hck,q1,MapKept.run_setObj_map _ hg]
 · obtain⟨q,q1,e0,q2,q3,q4⟩:=zsm hF hk (zc2.trans hlen) (λi ka va e h1 h2=>(h4 i ka va e h1 (by simpa using h2)).1) hkey w;subst q3;have q2':en[j]?=some e0:=by simpa using q2
   have hjlt:=(zcM.1 q2').1
   have hgetm:∀(i:Nat),(en.eraseIdxIfInBounds j)[i]?=if i<j then en[i]? else en[i+1]?:=by intro i;rw[Array.eraseIdxIfInBounds,dif_pos hjlt,<-zed,Array.toList_eraseIdx,List.getElem?_eraseIdx];simp
   refine⟨.tuple #[],{ w with heap:=w.heap.setIfInBounds g (.map (en.eraseIdxIfInBounds j) clock) },_,?_,EffAt.mapSet (fz:=[]) hS hd hkb h0 hbx hg hn (by simp) (by simp) hinj ?_ ?_ ?_ ?_ ?_ hv,rfl⟩
   ·simp[Builtin.delete_,hts,run_underlying hu,MapKept.run_getObj_map hg,-Array.isEmpty_iff,hck,q1,MapKept.run_setObj_map _ hg]
   ·grind
   · intro i e he;rw[hgetm]at he;split at he
     ·exact h1 i e he
     grind
   · intro i i' e f hij he hf;rw[hgetm]at he hf;split at he<;>split at hf
     ·grind
     ·grind
     ·omega
     grind
   ·intro cs hcs;exact h3 cs (List.mem_of_mem_eraseIdx hcs)
   · intro i k1 v1 e hi he;rw[List.getElem?_eraseIdx]at hi;rw[hgetm]at he;split at hi
     ·grind
     grind
end
end Go.Ab
end
