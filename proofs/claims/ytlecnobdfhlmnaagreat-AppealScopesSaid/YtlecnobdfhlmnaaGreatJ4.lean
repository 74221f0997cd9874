/- Walking, desk by desk. -/
import Derived.Test.YtlecnobdfhlmnaaGreatJ3
import Derived.Test.YtlecnobdfhlmnaaGreatJ2
import Derived.Test.YtlecnobdfhlmnaaGreatJ0
import Derived.Test.YtlecnobdfhlmnaaGreatXAnn
import Derived.Test.YtlecnobdfhlmnaaGreatAb10
import Derived.Control
set_option linter.unusedSimpArgs false
set_option linter.unusedVariables false
set_option linter.unusedSectionVars false
noncomputable section
namespace Go.Proofs.YtlecnobdfhlmnaaGreat
open Go.Ab
def deskE(s:zan)(i:Nat)(d:zay)(e:zac):zay:=
 if e.Kind=1 then(if e.Marker.toNat=i then reinS e.Stamp d else d)
 else if e.Kind=0/\e.Stamp.Source.toNat=i then(match fitS s e with
  |some q=>(match seedS s e.Script,s.Papers[q]? with
    |some sd,some p=>noteS s p sd e d
    |none,_=>{ d with marks:=d.marks++[⟨e,d.watch.Suspended⟩] }
    |_,_=>d)
  |none=>d)
 else d
def reopE(R:Reop)(e:zac):Reop:=if e.Kind=2 then mput ⟨e.Script,e.Part⟩ e.Stamp R else R
theorem evS_fst(s:zan)(st:Desks×Reop)(e:zac)(i:Nat):(evS s st e).1 i=(st.1 i).map (λd=>deskE s i d e):=by
 have idm:∀(f:zay->zay),(∀d,f d=d)->st.1 i=(st.1 i).map f:=λf h=>by
  cases st.1 i with
  |none=>rfl
  |some d=>simp[h d]
 by_cases k1:e.Kind=1
 · have hd:∀d,deskE s i d e=if e.Marker.toNat=i then reinS e.Stamp d else d:=λd=>by unfold deskE;rw[if_pos k1]
   unfold evS;rw[if_pos k1];by_cases hi:e.Marker.toNat=i
   · simp only[hd,hi,if_true]
     cases h:st.1 i with
     |none=>simp[h]
     |some d=>simp[upd]
   · simp only[hd,hi,if_false]
     cases h:st.1 e.Marker.toNat with
     |none=>exact idm _ λd=>rfl
     |some d0=>simp only[upd];rw[if_neg (show¬i=e.Marker.toNat from λh=>hi h.symm)];exact idm _ λd=>rfl
 by_cases k0:e.Kind=0
 case neg =>
  have hd:∀d,deskE s i d e=d:=λd=>by unfold deskE;rw[if_neg k1,if_neg (λh=>k0 h.1)]
  have:(evS s st e).1=st.1:=by
   unfold evS;rw[if_neg k1];split
   ·rfl
   ·rfl
  rw[this];exact idm _ hd
 have k2:¬e.Kind=2:=by omega
 unfold evS;rw[if_neg k1,if_neg k2,if_pos k0];by_cases hi:e.Stamp.Source.toNat=i
 · have hd:∀d,deskE s i d e=(match fitS s e with
    |some q=>(match seedS s e.Script,s.Papers[q]? with
      |some sd,some p=>noteS s p sd e d
      |none,_=>{ d with marks:=d.marks++[⟨e,d.watch.Suspended⟩] }
      |_,_=>d)
    |none=>d):=λd=>by unfold deskE;rw[if_neg k1,if_pos ⟨k0,hi⟩]
   simp only[hd,hi]
   cases h:st.1 i with
   |none=>simp[h]
   |some d =>
     cases hf:fitS s e with
     |none=>simp[h]
     |some q =>
       cases hs:seedS s e.Script with
       |none=>simp[upd]
       |some sd =>
         cases hp:s.Papers[q]? with
         |none=>simp[h,hp]
         |some p=>simp[upd,hp]
 · have hd:∀d,deskE s i d e=d:=λd=>by unfold deskE;rw[if_neg k1,if_neg (λh=>hi h.2)]
   rw[show(λd=>deskE s i d e)=id from funext hd,Option.map_id]
   cases h:st.1 e.Stamp.Source.toNat with
   |none=>rfl
   |some d0 =>
     cases hf:fitS s e with
     |none=>rfl
     |some q =>
       cases hs:seedS s e.Script with
       |none=>simp only[upd];rw[if_neg (show¬i=e.Stamp.Source.toNat from λh=>hi h.symm)];rfl
       |some sd =>
         cases hp:s.Papers[q]? with
         |none=>simp only[hp];rfl
         |some p=>simp only[hp,upd];rw[if_neg (show¬i=e.Stamp.Source.toNat from λh=>hi h.symm)];rfl
theorem evS_snd(s:zan)(st:Desks×Reop)(e:zac):(evS s st e).2=reopE st.2 e:=by
 unfold reopE;by_cases k1:e.Kind=1
 ·rw[iNQ];unfold evS;rw[if_pos k1];split<;>rfl
 by_cases k2:e.Kind=2
 ·rw[if_pos k2];unfold evS;rw[if_neg k1,if_pos k2]
 rw[if_neg k2];unfold evS;rw[if_neg k1,if_neg k2];split
 · split
   ·split<;>rfl
   ·rfl
 ·rfl
theorem zyX(s:zan):∀(ev:List zac) (st:Desks×Reop) (i:Nat),(ev.foldl (evS s) st).1 i=(st.1 i).map (λd=>ev.foldl (deskE s i) d)
 |[],st,i=>by simp
 |e::r,st,i=>by rw[zcJ,zyX s r (evS s st e) i,evS_fst,Option.map_map];rfl
theorem walk_snd(s:zan):∀(ev:List zac) (st:Desks×Reop),(ev.foldl (evS s) st).2=ev.foldl reopE st.2
 |[],st=>rfl
 |e::r,st=>by rw[zcJ,walk_snd s r (evS s st e),evS_snd];rfl
theorem walk_at(s:zan)(ev:List zac)(i:Nat):(walkS s ev).1 i=(seats s.Markers i).map (λd=>ev.foldl (deskE s i) d):=zyX s ev _ i
theorem walk_reop(s:zan)(ev:List zac):(walkS s ev).2=ev.foldl reopE []:=walk_snd s ev _
theorem zGy(l:List zac):(canonS l).Pairwise (λa b=>lessS a.Stamp b.Stamp=true):=by
 have h1:=zAu l
 have h2:(canonS l).Pairwise (λa b=>idE a≠idE b):=by refine(List.Perm.pairwise_iff (λ{a b} h=>(Ne.symm h:_)) (zhr l)).2 ?_;exact zDH l
 refine(h1.and h2).imp ?_;intro a b ⟨q1,q2⟩
 cases h:lessS a.Stamp b.Stamp with
 |true=>rfl
 |false=>exact absurd (by unfold idE;rw[zDN h q1]) q2
theorem lessS_tr{a b c:za6}(h1:lessS a b=true)(h2:lessS b c=true):lessS a c=true:=by
 unfold lessS at *
 grind
theorem zrw(a:za6):lessS a a=false:=by unfold lessS;simp
set_option maxRecDepth 20000
def countingS(m:za9)(sc pa:Int):List za5:=m.Given.filter λg=>g.Script==sc&&g.Part==pa
theorem c_Counting(m:za9)(sc pa:Int)(hl:m.Given.length<=1000000):cw zkR [.agg (zbI m),I sc,I pa] []=some (zlF (countingS m sc pa)):=by
 refine zAD ?_
 have key:∀(n i:Nat) (out:List za5),i+n=m.Given.length->out.length<=i->zgO m sc pa (mF out) i=some (zlF (out++(m.Given.drop i).filter λg=>g.Script==sc&&g.Part==pa)):=by
  intro n
  induction n with
  |zero=>intro i out hi ho;refine zrH ?_;rw[zad,zaN (by omega),zao rfl,zcd (by omega)];simp;rfl
  |succ n ih =>
    intro i out hi ho;have hlt:i<m.Given.length:=by omega
    refine zrH ?_;rw[zad,zaB (by omega),cPQ,zah,zf5,zaa hlt,zae,w6Q,show((i:Int)+1)=((i+1:Nat):Int)by omega,zbd hlt,zcn]
    cases h1:(m.Given[i].Script==sc)with
    |false =>
      rw[zaz,zcF,iNs]
      grind
    |true =>
      cases h2:(m.Given[i].Part==pa)with
      |false =>
        rw[zaV,zaz,zez,iNs]
        grind
      |true =>
        rw[zaV,zaV,zha,if_pos rfl,zao rfl,zao (by grind),zao rfl];simp only[zd3 zaC];have:=ih (i+1) (out++[m.Given[i]]) (by omega) (by simp;omega)
        simp_all
 have:=key m.Given.length 0 [] (by omega) (by simp);rw[zgT,zeS]at this;exact this
structure FairD(i:Nat)(pre:List zac)(d:zay):Prop where
 mrk:∀x∈d.marks,x.event∈pre
 sAt:∀y∈d.suspensions,(∃e∈pre,y.At=e.Stamp)/\(y.Lifted=true->∃e∈pre,y.Until=e.Stamp)/\y.Marker=(i:Int)
 lift:d.watch.Suspended=false->∀y∈d.suspensions,y.Lifted=true
 lift2:d.watch.Suspended=true->∀(k:Nat) (y:zbS),d.suspensions[k]?=some y->(k+1≠d.suspensions.length->y.Lifted=true)/\(k+1=d.suspensions.length->y.Lifted=false)
 out:∀x∈d.marks,x.void=false->∀y∈d.suspensions,lessS x.event.Stamp y.At=true\/(y.Lifted=true/\lessS x.event.Stamp y.Until=false)
 bad:∀x∈d.marks,x.void=false->∀y∈d.suspensions,y.First=false->lessS y.Good x.event.Stamp=true->lessS y.At x.event.Stamp=true
 per:∀(k:Nat) (x:zb5),d.marks[k]?=some x->(k:Int)<d.period->lessS d.started x.event.Stamp=false
 st:d.period<=0\/∃e∈pre,d.started=e.Stamp
 good:d.some=true->d.period<=0\/lessS d.started d.good=true
 pos:d.period<=(d.marks.length:Int)
theorem FairD.mono {i pre d} (h:FairD i pre d) (e:zac):FairD i (pre++[e]) d:=by
 have up:∀{f:zac},f∈pre->f∈pre++[e]:=λh=>zf9 _ h
 refine⟨λx hx=>up (h.mrk x hx),λy hy=>?_,h.lift,h.lift2,h.out,h.bad,h.per,?_,h.good,h.pos⟩
 · obtain⟨⟨f,f1,f2⟩,g,m⟩:=h.sAt y hy
   grind
 · rcases h.st with q|⟨f,f1,f2⟩
   ·exact .inl q
   grind
theorem FairD.rein {i pre d} (h:FairD i pre d) {e:zac} (hlt:∀f∈pre,lessS f.Stamp e.Stamp=true):FairD i (pre++[e]) (reinS e.Stamp d):=by
 unfold reinS;split
 case isFalse=>exact h.mono e
 rename_i hs;have h':=h.mono e
 have mem:∀y'∈d.suspensions.modify (d.suspensions.length-1) (λx=>{ x with Lifted:=true,Until:=e.Stamp }),∃y∈d.suspensions,(y'={ y with Lifted:=true,Until:=e.Stamp }/\y.Lifted=false)\/(y'=y/\y.Lifted=true):=by
  intro y' hy;obtain⟨k,hk⟩:=zcm hy;rw[List.getElem?_modify]at hk
  cases hg:d.suspensions[k]? with
  |none=>grind
  |some y =>
    rw[hg]at hk;have hlen:k<d.suspensions.length:=(zam.1 hg).1;refine⟨y,zaq hg,?_⟩;obtain⟨q1,q2⟩:=h.lift2 hs k y hg
    grind
 refine⟨h'.mrk,λy' hy=>?_,λ_ y' hy=>?_,λhh=>absurd hh (by simp),λx hx hv y' hy=>?_,λx hx hv y' hy hf hg=>?_,λk x hk _=>?_,.inr ⟨e,by simp,rfl⟩,λhh=>absurd hh (by simp),by simp⟩
 · obtain⟨y,y1,y2⟩:=mem y' hy;obtain⟨a1,a2,a3⟩:=h'.sAt y y1
   grind
 ·grind
 · obtain⟨y,y1,y2⟩:=mem y' hy;rcases y2 with⟨rfl,q⟩|⟨rfl,_⟩
   · rcases h.out x hx hv y y1 with r|⟨r,_⟩
     ·exact .inl r
     grind
   ·exact h.out x hx hv _ y1
 · obtain⟨y,y1,y2⟩:=mem y' hy;rcases y2 with⟨rfl,_⟩|⟨rfl,_⟩
   ·exact h.bad x hx hv y y1 hf hg
   ·exact h.bad x hx hv _ y1 hf hg
 ·exact zj1 (hlt _ (h.mrk x (zaq hk)))
theorem FairD.app {i pre d} (h:FairD i pre d) {e:zac} (hlt:∀f∈pre,lessS f.Stamp e.Stamp=true):FairD i (pre++[e]) { d with marks:=d.marks++[⟨e,d.watch.Suspended⟩] }:=by
 have h':=h.mono e;refine⟨λx hx=>?_,h'.sAt,h.lift,h.lift2,λx hx hv y hy=>?_,λx hx hv y hy hf hg=>?_,λk x hk hp=>?_,h'.st,h.good,?_⟩
 · rcases zbh.1 hx with hx|hx
   ·exact h'.mrk x hx
   simp_all
 · rcases zbh.1 hx with hx|hx
   ·exact h.out x hx hv y hy
   ·rw[zcr.1 hx]at hv ⊢;have hl:=h.lift hv y hy;obtain⟨f,f1,f2⟩:=(h.sAt y hy).2.1 hl;exact .inr ⟨hl,by rw[f2];exact zj1 (hlt f f1)⟩
 · rcases zbh.1 hx with hx|hx
   ·exact h.bad x hx hv y hy hf hg
   · rw[zcr.1 hx];obtain⟨f,f1,f2⟩:=(h.sAt y hy).1
     simp_all
 ·have hp':(k:Int)<d.period:=hp;have:=h.pos;rw[zd8 (by omega)]at hk;exact h.per k x hk hp'
 · have:=h.pos
   grind
theorem FairD.susp {i pre d} (h:FairD i pre d) {e:zac} (hlt:∀f∈pre,lessS f.Stamp e.Stamp=true) (hw:d.watch.Suspended=false) {w:zbZ} (hn:w.Suspended=true) (no:List (zaP×Int)) {id:Int} (hid:id=(i:Int)):FairD i (pre++[e]) (suspS id e.Stamp { d with noted:=no,watch:=w }):=by
 have h':=h.mono e;subst hid;unfold suspS;simp only;generalize hg:(if d.some then d.good else d.started)=g
 have mem:∀(k:Nat) (x':zb5),(d.marks.mapIdx (voidIf d.period (!d.some) g))[k]?=some x'->∃x,d.marks[k]?=some x/\x'.event=x.event/\(x'.void=false->x.void=false/\¬(d.period<=k/\(!d.some||lessS g x.event.Stamp)=true)):=by
  intro k x' hk;rw[zf8]at hk
  cases hm:d.marks[k]? with
  |none=>grind
  |some x =>
    rw[hm]at hk;injection hk with hk;refine⟨x,rfl,by rw[<-hk,zoM],λhv=>?_⟩;rw[<-hk]at hv;unfold voidIf at hv
    grind
 have mem':∀x'∈d.marks.mapIdx (voidIf d.period (!d.some) g),∃(k:Nat) (x:zb5),d.marks[k]?=some x/\x'.event=x.event/\(x'.void=false->x.void=false/\¬(d.period<=k/\(!d.some||lessS g x.event.Stamp)=true)):=λx' hx=>by
  obtain⟨k,hk⟩:=zcm hx
  grind
 refine⟨λx' hx=>?_,λy hy=>?_,λhh=>?_,λ_ k y hk=>?_,λx' hx hv y hy=>?_,λx' hx hv y hy hf hgd=>?_,λk x' hk hp=>?_,h'.st,h.good,?_⟩
 ·obtain⟨k,x,q1,q2,_⟩:=mem' x' hx;rw[q2];exact h'.mrk x (zaq q1)
 · rcases zbh.1 hy with hy|hy
   ·exact h'.sAt y hy
   simp_all
 ·grind
 · rw[zcb,zhX];by_cases hk':k<d.suspensions.length
   ·rw[zd8 hk']at hk;exact⟨λ_=>h.lift hw y (zaq hk),λq=>absurd q (by omega)⟩
   grind
 · obtain⟨k,x,q1,q2,q3⟩:=mem' x' hx;have hx0:=zaq q1;rw[q2];rcases zbh.1 hy with hy|hy
   ·exact h.out x hx0 (q3 hv).1 y hy
   ·rw[zcr.1 hy];exact .inl (hlt _ (h.mrk x hx0))
 · obtain⟨k,x,q1,q2,q3⟩:=mem' x' hx;have hx0:=zaq q1;rw[q2]at hgd ⊢;rcases zbh.1 hy with hy|hy
   ·exact h.bad x hx0 (q3 hv).1 y hy hf hgd
   · rw[zcr.1 hy]at hf hgd;simp only at hf hgd;exfalso;have hs:d.some=true:=by simpa using hf
     have hk:¬d.period<=(k:Int):=λhk=>(q3 hv).2 ⟨hk,by simp_all⟩
     have hp:=h.per k x q1 (by omega);rw[hs,if_pos rfl]at hg;rw[<-hg]at hgd;rcases h.good hs with r|r
     ·omega
     ·rw[lessS_tr r hgd]at hp;cases hp
 ·obtain⟨x,q1,q2,_⟩:=mem k x' hk;rw[q2];exact h.per k x q1 hp
 ·have:=h.pos;simpa using this
theorem FairD.note {i pre d} (h:FairD i pre d) {e:zac} (hlt:∀f∈pre,lessS f.Stamp e.Stamp=true) (s:zan) (p:zaM) (sd:GSeed) (hid:e.Stamp.Source=(i:Int)):FairD i (pre++[e]) (noteS s p sd e d):=by
 have h':=h.mono e;unfold noteS;split
 ·exact h'
 · simp only;split
   ·exact⟨h'.mrk,h'.sAt,h'.lift,h'.lift2,h'.out,h'.bad,h'.per,h'.st,h'.good,h'.pos⟩
   · split
     ·exact⟨h'.mrk,h'.sAt,h'.lift,h'.lift2,h'.out,h'.bad,h'.per,h'.st,h'.good,h'.pos⟩
     · rename_i hw;have hw:d.watch.Suspended=false:=by simpa using hw
       split
       ·rename_i hn;exact h.susp hlt hw hn _ hid
       · rename_i hn;split
         · refine⟨h'.mrk,h'.sAt,λ_=>h'.lift hw,λq=>absurd q hn,h'.out,h'.bad,h'.per,h'.st,λ_=>?_,h'.pos⟩;rcases h.st with q|⟨f,f1,f2⟩
           ·exact .inl q
           simp_all
         ·exact⟨h'.mrk,h'.sAt,λ_=>h'.lift hw,λq=>absurd q hn,h'.out,h'.bad,h'.per,h'.st,h'.good,h'.pos⟩
theorem zCl{l:List zac}:∀e∈canonS l,eventB e=true:=λ_ he=>(zGz.1 he).2.1
theorem given_of{s:zan}{l:List zac}{g:za5}(h:g∈(foldS s l).Given):∃(i:Nat) (d:zay) (x:zb5),i<100/\(walkS s (canonS l)).1 i=some d/\x∈d.marks/\x.void=false/\g=zdv i d x.event/\x.event∈canonS l/\markEv s i x.event=true:=by
 rw[zxi]at h;simp only at h;obtain⟨i,hi,d,hd,p,hp,rfl⟩:=zpE.1 ((zht (lt:=zbW) _).mem_iff.1 h);obtain⟨x,x1,x2,x3,_⟩:=countS_mem hp;have hm:=zuo hd;have:x.event∈(canonS l).filter (markEv s i):=by rw[<-hm];exact zbs.2 ⟨x,x1,rfl⟩
 grind
theorem zIX(i:Nat)(d:zay)(R:Reop):((countS d R).map λp=>zdv i d p.2).Nodup:=by
 obtain⟨k1,k2⟩:=zuP d R;generalize countS d R=m at k1 k2;unfold List.Nodup at k1 ⊢;rw[zew]at k1 ⊢;refine zgu ?_ k1;intro p q hp hq hne he;unfold zdv at he
 grind
theorem zy4(ds:Desks)(R:Reop):∀n,(zdQ ds R n).Nodup
 |0=>by simp[zdQ]
 |n+1=>by
   rw[zou];refine zjz.2 ⟨zy4 ds R n,?_,?_⟩
   · cases ds n with
     |none=>exact zit
     |some d=>exact zIX n d R
   · intro a ha b hb hab;subst hab;obtain⟨i,hi,d,_,p,_,rfl⟩:=zpE.1 ha
     cases hd:ds n with
     |none=>grind
     |some f =>
       rw[hd]at hb;obtain⟨q,_,hq⟩:=zbs.1 hb;unfold zdv at hq
       grind
theorem given_asc(s:zan)(l:List zac):(foldS s l).Given.Pairwise (λa b=>zbW a b=true):=by
 rw[zxi];simp only;generalize hL:zdQ (walkS s (canonS l)).1 (walkS s (canonS l)).2 100=L;have hp:=zht (lt:=zbW) L;have h1:=zow (lt:=zbW) (λ_ _ _ h1 h2=>zsp h1 h2) (λ_ _ h=>zpY h) L;have h2:(isort zbW L).Nodup:=hp.nodup_iff.2 (by rw[<-hL];exact zy4 _ _ _);refine(h1.and h2).imp_of_mem ?_;intro a b ha hb ⟨q1,q2⟩
 cases h:zbW a b with
 |true=>rfl
 |false=>have q:=zyw h q1;rw[hp.mem_iff,<-hL]at ha hb;exact absurd (zGI ha hb q.1 q.2.1 q.2.2) q2
theorem zto(r:zbv)(h:OkMon r):cw znh [.agg (zbQ r)] []=some (zbm 0):=by obtain⟨h1,h2,h3,h4⟩:=h;refine zHQ ?_;simp(disch:=omega) [zaN];rfl
theorem zq1(s:zan)(n:Int)(h1:s.Scripts.length<=1000000)(h2:s.Papers.length<=1000000):cw znT [.agg (zas s),I n] []=some (zir (ixR (zfX s n))):=by
 refine zE4 ?_;rw[zw8 _ n h1,zjb];unfold zfX
 cases zgm s.Scripts n with
 |none=>rfl
 |some x=>simp only[scR,zaF,zaz,ztn _ x h2,zg0,zae];rfl
theorem ztp(l:List Bool)(hl:l.length<=1000000):cw zni [.sl 1 (List.map nBool l)] []=some (zbm (failsN l)):=by
 refine zHS ?_;have loop:=zcl l (λi r=>∀x:Int,0<=x->x<=i->zk9 l x i=some (zbm (x+failsN r))) ?_ ?_ 0 (by omega) (by omega)
 ·grind
 ·intro x _ _;refine zvY ?_;simp(disch:=omega)only[zad,zaN];simp only[failsN,zeQ,zcZ,Int.natCast_zero,Int.add_zero];rfl
 · intro i hi r hr ih x h0 h1;refine zvY ?_;simp(disch:=omega)only[zad,zaB,zao,zah,zoT,zaa hi,zae]
   cases hb:l[i]with
   |true=>simp(disch:=omega)only[zaF,zaz,w64_id];rw[ih x h0 (by omega),show failsN (true::r)=failsN r by simp[failsN]]
   |false=>simp(disch:=omega)only[zbe,zaV,w64_id];rw[ih (x+1) (by omega) (by omega),show failsN (false::r)=1+failsN r by simp[failsN];omega,Int.add_assoc]
theorem zHC(r:zbv)(w:zbZ)(hr:OkMon r):cw zty [.agg (zbQ r),.agg (zdw w)] []=some (zap (dec (zno r w))):=by
 have hw:=hr.2.2.1;refine zHR ?_;simp only[zto r hr,za7,beq_self_eq_true,zaV,zad];by_cases h:(w.Last.length:Int)<=r.Window
 ·simp(disch:=omega)only[zaB,ztp,za7];rw[show(w.Suspended==decide (r.Fails<=failsN w.Last))=dec (zno r w)from zfG (by simp only[beq_iff_eq,zno];simp_all)];rfl
 ·simp(disch:=omega)only[zaN];rw[zbB (λh2=>h h2.1)];rfl
theorem zIQ(r:zbv)(w:zbZ)(b:Bool)(hr:OkMon r)(hw:zno r w)(hs:w.Suspended=false):cw zu0 [.agg (zbQ r),.agg (zdw w),B b] []=some (zoD (stepW r w b,0)):=by
 have h1:=hr.2.2.1;have h2:=hw.1;refine zI8 ?_;have hsnoc:List.map nBool w.Last++[[B b]]=List.map nBool (w.Last++[b]):=by simp[nBool]
 have hsnoc2:List.map nBool w.Last++[nBool b]=List.map nBool (w.Last++[b]):=by simp
 have hsnoc3:List.map nBool w.Last++[[B b]]=List.map nBool (w.Last++[b]):=by simp[nBool]
 have hlen:(w.Last++[b]).length=w.Last.length+1:=by simp
 simp(disch:=omega)only[zHC r w hr,zKA,zbj hw,zaF,zaz,hs,zad,zao,zbx,hsnoc];by_cases hb:r.Window<((w.Last++[b]).length:Nat)
 · simp(disch:=omega)only[zaB,zao,zbx,zaX];refine zB8 ?_
   have hdrop:List.take ((w.Last++[b]).length-Int.toNat 1) (List.drop (0+Int.toNat 1) (List.map nBool (w.Last++[b])))=List.map nBool (lastW r w b):=by rw[show 0+Int.toNat 1=1 from rfl,<-ziY,zaJ (by simp)];unfold lastW;rw[if_pos hb]
   have hll:(lastW r w b).length<=1000000:=by unfold lastW;rw[if_pos hb];simp;omega
   simp(disch:=omega)only[hsnoc,hsnoc2,hsnoc3,zad,hdrop,zao,ztp _ hll,za7];rfl
 · simp(disch:=omega)only[zaN];refine zzI ?_
   have hdrop:List.take (w.Last++[b]).length (List.map nBool (w.Last++[b]))=List.map nBool (lastW r w b):=by rw[zaJ (by simp)];unfold lastW;rw[if_neg hb]
   have hll:(lastW r w b).length<=1000000:=by unfold lastW;rw[if_neg hb];simp;omega
   simp(disch:=omega)only[hsnoc,hsnoc2,hsnoc3,zad,hdrop,zao,ztp _ hll,za7];rfl
def sizeI(n:Int):Int:=if n<0 then 0-n else n
theorem zAm(n:Int)(h:-1000000<=n/\n<=1000000):cw zrj [I n] []=some (zbm (sizeI n)):=by refine zI9 ?_;rw[w6Q,zfe];unfold sizeI;split<;>rfl
theorem zG4(a b:Int):sizeI (a-b)=distI a b:=by unfold sizeI distI;omega
theorem zIP(r:zbv)(a b:List Int)(hr:OkMon r):cw zuZ [.agg (zbQ r),.sl 1 (List.map zai a),.sl 1 (List.map zai b)] []=some (zap (goodS r a b)):=by
 refine zI7 ?_;simp only[zto r hr,za7,bne_self_eq_false,zaz,zad];unfold goodS;by_cases h1:a.length=b.length
 case neg=>rw[show((a.length:Int) !=(b.length:Int))=true by grind,zaV,show(a.length==b.length)=false by simpa using h1];rfl
 rw[show((a.length:Int) !=(b.length:Int))=false by simp[h1],zaz,show(a.length==b.length)=true by simpa using h1,zcx];by_cases h2:a.length<=24
 case neg =>
  rw[zaB (by omega)];have:greatB a=true:=by unfold greatB;rw[decide_eq_true (by omega)];rfl
  rw[this];rfl
 rw[zaN (by omega)];have hga:greatB a=a.any λm=>decide (200<m):=by unfold greatB;grind
 have hgb:greatB b=b.any λm=>decide (200<m):=by unfold greatB;grind
 rw[hga,hgb]
 have key:∀(n i:Nat) (x y:Int),i+n=a.length->0<=x/\x<=200*i->0<=y/\y<=200*i->zo4 r a b (x-y) i=some (zap (!(a.drop i).any (λm=>decide (200<m))&&!(b.drop i).any (λm=>decide (200<m))&&zsq r (a.drop i) (b.drop i) x y)):=by
  intro n
  induction n with
  |zero=>intro i x y hi hx hy;refine zxH ?_;rw[zad,zaN (by omega),zAm _ (by omega),za7,zG4,zcd (show a.length<=i by omega),zcd (show b.length<=i by omega)];rfl
  |succ n ih =>
    intro i x y hi hx hy;have h3:i<a.length:=by omega
    have h4:i<b.length:=by omega
    refine zxH ?_;simp(disch:=omega)only[zad,zaB,zao,zah,zce,zaa h3,zaa h4,zae];rw[zbd h3,zbd h4,zfp,zfp];by_cases h5:200<a[i]
    ·rw[zaB h5,decide_eq_true h5];rfl
    rw[zaN h5,decide_eq_false h5,zei];by_cases h6:200<b[i]
    ·rw[zaB h6,decide_eq_true h6,Bool.true_or,zaF,zez,zcF];rfl
    rw[zaN h6,decide_eq_false h6,zei];have p1:=zBs (show a[i]<=200 by omega);have p2:=zBs (show b[i]<=200 by omega);rw[show(if(0:Int) > a[i]then 0 else a[i])=posI a[i]from rfl,show(if(0:Int) > b[i]then 0 else b[i])=posI b[i]from rfl,w6Q (n:=posI a[i]-posI b[i]),zAm _ (by omega),za7,zG4,zfe];unfold zsq;split
    ·rw[zez];rfl
    · rw[w6Q,w6Q,show x-y+(posI a[i]-posI b[i])=(x+posI a[i])-(y+posI b[i])by omega]
      grind
 have:=key a.length 0 0 0 (by omega) (by omega) (by omega);simpa using this
def noteOf(c:List zbY)(p:Int):Option Int:=(c.find? λx=>x.part==p).map (·.value)
def zoY(c:List zbY)(marks:List Int):List GPart->Nat->List Int->List Int->Option (List Int×List Int)
 |[],_,x,y=>some (x,y)
 |p::r,i,x,y=>if p.Kind=1 then(match noteOf c i with
   |none=>none
   |some v=>zoY c marks r (i+1) (x++[marks.getD i 0]) (y++[v]))else zoY c marks r (i+1) x y
theorem zyv{c:List zbY}{noted:List (zaP×Int)}{script:Int}(h:∀pa,noteOf c pa=mfind ⟨script,pa⟩ noted)(marks:List Int):∀(ps:List GPart) (i:Nat) (x y:List Int),zoY c marks ps i x y=gather noted script marks ps i x y
 |[],_,_,_=>rfl
 |p::r,i,x,y=>by
   unfold zoY gather;rw[h];split
   · cases mfind (⟨script,(i:Int)⟩:zaP) noted with
     |none=>rfl
     |some v=>exact zyv h marks r (i+1) _ _
   ·exact zyv h marks r (i+1) _ _
def judgeR(r:zbv):Option (List Int×List Int)->Bool×Bool
 |none=>(false,false)
 |some (a,b)=>(true,goodS r a b)
theorem seed_judge{s:zan}(hs:zb3 s){n:Int}{i:Nat}{y:GSeed}(h:seedOf s.Seeds n=some (i,y)):∃k p,zfX s n=some (k,p)/\zlZ p y.Marks:=by
 obtain⟨h1,h2,_⟩:=fnd_at h;obtain⟨k,p,h3,h4⟩:=hs.seed y (zaq h1)
 grind
theorem zyN{s:zan}(hs:zb3 s):∀y∈s.Seeds,y.Marks.length<=1000000:=by intro y hy;obtain⟨k',p',h1,h2⟩:=hs.seed y hy;have:=(hs.okPaper (zuf h1)).2.2.1;have:=h2.1;omega
theorem c_judge(s:zan)(hs:zb3 s)(k:Nat)(p:zaM)(i:Nat)(y:GSeed)(n:Int)(l:List zbY)(hk:zfX s n=some (k,p))(hy:seedOf s.Seeds n=some (i,y))(hm:zlZ p y.Marks)
  (hl:l.length<=100000) (hn:(l.map (·.part)).Nodup):cw ztB [.agg (zas s),I n,.sl 2 (mP l)] []=some (zkI (judgeR s.Monitor (zoY l y.Marks p.Parts 0 [] []))):=by
 have hx60:=hs.scripts.1;have hp32:=hs.papers;have hsd:=hs.seeds;have hpk:=zuf hk;have hparts:p.Parts.length<=24:=(hs.okPaper hpk).2.2.1.2;refine zHV ?_;simp(disch:=omega)only[zq1 s n (by omega) (by omega),hk,ixR,zg0,zod s.Seeds n (by omega) (zyN hs),hy,seedR,ziZ];refine zcl p.Parts (λq rest=>∀(a b:List Int),(a.length:Int)<=q->(b.length:Int)<=q->zlc s l ((k:Int),true) (y.Marks,true) (List.map zai a) (List.map zai b) q=some (zkI (judgeR s.Monitor (zoY l y.Marks rest q.toNat a b)))) ?_ ?_ [] [] (by simp) (by simp)
 ·intro a b ha hb;refine zv2 ?_;simp(disch:=omega)only[zao,zah,zfH,hpk,zae,zad,zaN,zaY,zaX,zbx];rw[zaJ (by simp),zaJ (by simp),zIP s.Monitor a b hs.monitor,zKA];rfl
 · intro q hq rest _ ih a b ha hb;refine zv2 ?_;simp(disch:=omega)only[zao,zah,zfH,hpk,zae,zad,zaB,zAp,zKA];have hix:((q:Int)+1).toNat=q+1:=by omega
   rw[hix]at ih;unfold zoY;by_cases hop:p.Parts[q].Kind=1
   case neg =>
    rw[zbB (by rintro⟨_,x,h1,h2⟩;simp_all),zbe,zaV,w6Q,if_neg hop]
    grind
   rw[zbj ⟨by omega,_,by simp_all,hop⟩,zaF,zaz,if_pos hop];have hqm:q<y.Marks.length:=by have:=hm.1;omega
   have hgm:y.Marks.getD q 0=y.Marks[q]:=by rw[zfM,zaa hqm];rfl
   rw[hgm];refine(zcl l (λj rs=>(rs.map (·.part)).Nodup->∀(a b:List Int),((a.length:Int)<=q->(b.length:Int)<=q->zjv s l ((k:Int),true) (y.Marks,true) q (List.map zai a) (List.map zai b) false j=some (zkI (judgeR s.Monitor (match noteOf rs q with|none=>none|some v=>zoY l y.Marks rest (q+1) (a++[y.Marks[q]]) (b++[v])))))/\((a.length:Int)<=q+1->(b.length:Int)<=q+1->(∀x∈rs,x.part≠q)->zjv s l ((k:Int),true) (y.Marks,true) q (List.map zai a) (List.map zai b) true j=some (zkI (judgeR s.Monitor (zoY l y.Marks rest (q+1) a b))))) ?_ ?_ hn a b).1 ha hb
   · intro _ a b;refine⟨λha hb=>?_,λha hb _=>?_⟩
     ·refine zn6 ?_;rw[zad,zaN (by omega),zbe,zaV];rfl
     · refine zn6 ?_;rw[zad,zaN (by omega),zaF,zaz,w6Q]
       simp_all
   · intro j hj rs _ ih2 hnd a b;simp only[zbJ]at hnd;obtain⟨hn1,hn2⟩:=zfE.1 hnd;have ih3:=ih2 hn2;refine⟨λha hb=>?_,λha hb hne=>?_⟩
     · refine zn6 ?_;simp(disch:=omega)only[zad,zaB,zao,zbx,zah,zpl,zaa hj,zae,zce,zaa hqm,zd3 zai,w64_id];unfold noteOf;rw[List.find?_cons]
       cases hp:(l[j].part==(q:Int))with
       |true =>
         rw[zaV]
         grind
       |false=>rw[zaz];exact(ih3 a b).1 ha hb
     · refine zn6 ?_;simp(disch:=omega)only[zad,zaB,zao,zbx,zah,zpl,zaa hj,zae,zce,zaa hqm,zd3 zai,w64_id];rw[show(l[j].part==(q:Int))=false by simp_all,zaz]
       simp_all
abbrev Notes:=List (Int×List zbY)
def zc3(n:Notes)(sc:Int):List zbY:=(mfind sc n).getD []
structure NoteR(n:Notes)(noted:List (zaP×Int)):Prop where
 look:∀sc pa,noteOf (zc3 n sc) pa=mfind ⟨sc,pa⟩ noted
 once:∀sc,((zc3 n sc).map (·.part)).Nodup
structure WR(l:List zac)(mk:Nat)(i:Nat)(d:zay)(good:za6)(first:Bool)(begin:Nat)(out:List zbS)(w:zbZ)(void:List Bool)(n:Notes):Prop where
 out:out=d.suspensions
 wat:w=d.watch
 first:first=!d.some
 good:good=if d.some then d.good else d.started
 vlen:void.length=l.length
 from_:∀x∈d.marks,x.event∈l.take i/\x.event.Kind=0/\x.event.Stamp.Source.toNat=mk
 vd:∀x∈d.marks,∀k:Nat,l[k]?=some x.event->void[k]?=some x.void
 late:∀k:Nat,i<=k->k<l.length->void[k]?=some false
 per:∀(j:Nat) (x:zb5) (k:Nat),d.marks[j]?=some x->l[k]?=some x.event->(d.period<=(j:Int)↔begin<=k)
 beg:d.suspensions≠[]->d.watch.Suspended=false->∃e,l[begin]?=some e/\e.Kind=1/\d.started=e.Stamp
 notes:d.watch.Suspended=false->NoteR n d.noted
 bi:begin<=i
 plen:d.period<=(d.marks.length:Int)
section
variable{l:List zac}{mk i:Nat}{d:zay}{good:za6}{first:Bool}{begin:Nat}{out:List zbS}{w:zbZ}{void:List Bool}{n:Notes}
theorem pl_inj(ha:l.Pairwise (λa b=>lessS a.Stamp b.Stamp=true)){j k:Nat}{e:zac}(h1:l[j]?=some e)(h2:l[k]?=some e):j=k:=by
 obtain⟨a1,a2⟩:=zam.1 h1;obtain⟨b1,b2⟩:=zam.1 h2;have hp:=zcj.1 ha;rcases zho j k with h|h|h
 ·have:=hp j k a1 b1 h;rw[a2,b2,zrw]at this;cases this
 ·exact h
 ·have:=hp k j b1 a1 h;rw[a2,b2,zrw]at this;cases this
theorem pl_less(ha:l.Pairwise (λa b=>lessS a.Stamp b.Stamp=true)){j k:Nat}{e f:zac}(h1:l[j]?=some e)(h2:l[k]?=some f)(h:j<k):lessS e.Stamp f.Stamp=true:=by obtain⟨a1,rfl⟩:=zam.1 h1;obtain⟨b1,rfl⟩:=zam.1 h2;exact zcj.1 ha j k a1 b1 h
theorem zA5(ha:l.Pairwise (λa b=>lessS a.Stamp b.Stamp=true)){k:Nat}{e:zac}(h1:l[k]?=some e)(h2:e∈l.take i):k<i:=by
 obtain⟨j,hj⟩:=zcm h2;rw[zch]at hj;split at hj
 ·rename_i hlt;rw[pl_inj ha h1 hj];exact hlt
 ·cases hj
theorem WR.zero(lv:Int):WR l mk 0 (desk0 lv) ⟨0,0,0⟩ true 0 [] ⟨[],false⟩ (List.replicate l.length false) [] where
 out:=rfl
 wat:=rfl
 first:=rfl
 good:=rfl
 vlen:=by simp
 from_:=by simp[desk0]
 vd:=by simp[desk0]
 late:=λk _ hk=>by simp_all
 per:=by simp[desk0]
 beg:=λh=>absurd rfl h
 notes:=λ_=>⟨λsc pa=>by simp[zc3,noteOf,mfind,desk0],λsc=>by simp[zc3,mfind]⟩
 bi:=zaX _
 plen:=by simp[desk0]
theorem WR.skip(h:WR l mk i d good first begin out w void n):WR l mk (i+1) d good first begin out w void n:=
 { h with
   from_:=λx hx=>⟨zeE (l:=l.take (i+1)) (i:=i) (by rw[List.take_take,zhp (by omega)];exact(h.from_ x hx).1),(h.from_ x hx).2⟩
   late:=λk hk=>h.late k (by omega)
   bi:=by have:=h.bi;omega }
theorem WR.noted(h:WR l mk i d good first begin out w void n)(hs:d.watch.Suspended=true)(no:List (zaP×Int)):WR l mk i { d with noted:=no } good first begin out w void n:=
 { h with notes:=λhn=>by simp_all }
theorem WR.flag(ha:l.Pairwise (λa b=>lessS a.Stamp b.Stamp=true))(h:WR l mk i d good first begin out w void n)(b:Bool):WR l mk (i+1) d good first begin out w (void.set i b) n:=
 { h.skip with
   vlen:=by rw[zeR];exact h.vlen
   vd:=λx hx k hk=>by have:=zA5 ha hk (h.from_ x hx).1;rw[zdy (by omega)];exact h.vd x hx k hk
   late:=λk hk hl=>by
    rw[zdy (by omega)]
    exact h.late k (by omega) hl }
theorem WR.mark(ha:l.Pairwise (λa b=>lessS a.Stamp b.Stamp=true))(h:WR l mk i d good first begin out w void n){e:zac}(he:l[i]?=some e)(hk:e.Kind=0)(hm:e.Stamp.Source.toNat=mk)(b:Bool):WR l mk (i+1) { d with marks:=d.marks++[⟨e,b⟩] } good first begin out w (void.set i b) n:=by
 have h':=h.flag ha b;have hil:i<l.length:=(zam.1 he).1;refine{ h' with from_:=λx hx=>?_,vd:=λx hx k hk=>?_,per:=λj x k hj hk=>?_,plen:=?_ }
 · rcases zbh.1 hx with hx|hx
   ·exact h'.from_ x hx
   ·rw[zcr.1 hx];exact⟨zaq (i:=i) (by simp_all),hk,hm⟩
 · rcases zbh.1 hx with hx|hx
   ·exact h'.vd x hx k hk
   ·rw[zcr.1 hx]at hk ⊢;have:=pl_inj ha hk he;subst this;rw[zeq (by rw[h.vlen];exact hil)]
 · by_cases hjl:j<d.marks.length
   ·rw[zd8 hjl]at hj;exact h.per j x k hj hk
   · rw[List.getElem?_append_right (by omega)]at hj
     have h0:j-d.marks.length=0:=by have:=(zam.1 hj).1;simp at this;omega
     rw[h0]at hj;simp only[zbR,zaf]at hj;rw[<-hj]at hk;have:=pl_inj ha hk he;have h1:=h.plen;have h2:=h.bi;simp only;omega
 · have:=h.plen
   grind
theorem WR.rein(h:WR l mk i d good first begin out w void n)(ha:l.Pairwise (λa b=>lessS a.Stamp b.Stamp=true)){e:zac}(he:l[i]?=some e)(hk:e.Kind=1)(hs:d.watch.Suspended=true):WR l mk (i+1) (reinS e.Stamp d) e.Stamp true i (out.modify (out.length-1) λx=>{ x with Lifted:=true,Until:=e.Stamp }) ⟨[],false⟩ void []:=by
 unfold reinS;rw[if_pos hs];have h':=h.skip;refine{ out:=by rw[h.out],wat:=rfl,first:=rfl,good:=rfl,vlen:=h.vlen,from_:=h'.from_,vd:=h.vd,late:=h'.late,per:=λj x k hj hk=>?_,beg:=λ_ _=>⟨e,he,hk,rfl⟩,notes:=λ_=>?_,bi:=by omega,plen:=by simp }
 · have h1:=(zam.1 hj).1;have h2:=zA5 ha hk (h.from_ x (zaq hj)).1
   grind
 ·exact⟨λsc pa=>by simp[zc3,noteOf,mfind],λsc=>by simp[zc3,mfind]⟩
theorem zH1(c:List zbY)(x:zbY)(p:Int):noteOf (c++[x]) p=match noteOf c p with|some v=>some v|none=>if x.part=p then some x.value else none:=by
 unfold noteOf
 grind
theorem zJ9{c:List zbY}{p:Int}:noteOf c p=none↔p ∉ c.map (·.part):=by
 unfold noteOf
 simp_all
theorem NoteR.put{noted:List (zaP×Int)}(h:NoteR n noted){sc pa v:Int}(hn:mfind ⟨sc,pa⟩ noted=none):NoteR (mput sc (zc3 n sc++[⟨pa,v⟩]) n) (mput ⟨sc,pa⟩ v noted):=by
 have hne:noteOf (zc3 n sc) pa=none:=by rw[h.look];exact hn
 constructor
 · intro sc' pa';by_cases hs:sc'=sc
   · subst hs
     have e:zc3 (mput sc' (zc3 n sc'++[⟨pa,v⟩]) n) sc'=zc3 n sc'++[⟨pa,v⟩]:=by show(mfind sc' (mput sc' _ n)).getD []=_;rw[zc5];rfl
     rw[e,zH1];by_cases hp:pa'=pa
     ·subst hp;rw[hne,zc5,if_pos rfl]
     · rw[zdr _ (λq=>hp (by injection q)),<-h.look]
       grind
   · have e:zc3 (mput sc (zc3 n sc++[⟨pa,v⟩]) n) sc'=zc3 n sc':=by show(mfind sc' (mput sc _ n)).getD []=_;rw[zdr _ hs];rfl
     rw[e,zdr _ (λq=>hs (by injection q)),h.look]
 · intro sc';by_cases hs:sc'=sc
   · subst hs
     have e:zc3 (mput sc' (zc3 n sc'++[⟨pa,v⟩]) n) sc'=zc3 n sc'++[⟨pa,v⟩]:=by show(mfind sc' (mput sc' _ n)).getD []=_;rw[zc5];rfl
     rw[e];simp only[zcC];refine zjz.2 ⟨h.once sc',by simp,?_⟩;intro a h1 b h2 hab;simp only[zbJ,ze1,zcr]at h2;subst hab h2;exact zJ9.1 hne h1
   · have e:zc3 (mput sc (zc3 n sc++[⟨pa,v⟩]) n) sc'=zc3 n sc':=by show(mfind sc' (mput sc _ n)).getD []=_;rw[zdr _ hs];rfl
     rw[e];exact h.once sc'
def VoidTo(l:List zac)(mk:Nat)(good:za6)(one:Bool)(begin i:Nat)(void void':List Bool):Prop:=
 void'.length=void.length/\∀(k:Nat) (e:zac),l[k]?=some e->void'[k]?=(void[k]?).map λb=>if begin<=k/\k<=i then b||(e.Kind==0&&e.Stamp.Source==(mk:Int)&&(one||lessS good e.Stamp))else b
theorem WR.susp(h:WR l mk i d good first begin out w void n)(ha:l.Pairwise (λa b=>lessS a.Stamp b.Stamp=true))(hsrc:∀e∈l,0<=e.Stamp.Source){e:zac}(hw:d.watch.Suspended=false){w':zbZ}(hw':w'.Suspended=true)(no:List (zaP×Int))(n':Notes){void':List Bool}
  (hv:VoidTo l mk good (first&&decide (out=[])) begin i void void'):WR l mk (i+1) (suspS (mk:Int) e.Stamp { d with noted:=no,watch:=w' }) good first begin (out++[⟨mk,good,e.Stamp,⟨0,0,0⟩,first,false⟩]) w' void' n':=by
 obtain⟨v1,v2⟩:=hv;have h':=h.skip;unfold suspS;simp only;have hg:=h.good;have hf:=h.first;rw[<-hg,<-hf]
 have cond:∀(j:Nat) (x:zb5) (k:Nat),d.marks[j]?=some x->l[k]?=some x.event->(voidIf d.period first good j x).void=(if begin<=k/\k<=i then x.void||(x.event.Kind==0&&x.event.Stamp.Source==(mk:Int)&&((first&&decide (out=[]))||lessS good x.event.Stamp))else x.void):=by
  intro j x k hj hk;have hm:=zaq hj;obtain⟨m1,m2,m3⟩:=h.from_ x hm;have hki:=zA5 ha hk m1;have hper:=h.per j x k hj hk;have hs0:=hsrc x.event (zaq hk);rw[show(x.event.Kind==0)=true by simpa using m2,show(x.event.Stamp.Source==(mk:Int))=true by grind];simp only[zcx];unfold voidIf;by_cases hb:begin<=k
  · rw[if_pos (show begin<=k/\k<=i by omega)];have hp:=hper.2 hb
    have same:((first&&decide (out=[]))||lessS good x.event.Stamp)=(first||lessS good x.event.Stamp):=by
     by_cases ho:out=[]
     ·simp[ho]
     · rw[decide_eq_false ho,zez,zei]
       cases hfs:first with
       |false=>rfl
       |true =>
         rw[Bool.true_or];obtain⟨e0,b1,b2,b3⟩:=h.beg (λq=>ho (by rw[h.out];exact q)) hw;have hsome:d.some=false:=by rw[hfs]at hf;simpa using hf.symm
         rw[hsome,iNs]at hg;rw[hg,b3];refine pl_less ha b1 hk ?_
         grind
    grind
  ·grind
 have ev:∀(j:Nat) (x':zb5),(d.marks.mapIdx (voidIf d.period first good))[j]?=some x'->∃x,d.marks[j]?=some x/\x'=voidIf d.period first good j x:=by
  intro j x' hj;rw[zf8]at hj
  cases hm:d.marks[j]? with
  |none=>grind
  |some x=>simp_all
 refine{ out:=by rw[h.out],wat:=rfl,first:=hf,good:=hg,vlen:=by rw[v1];exact h.vlen,from_:=λx' hx=>?_,vd:=λx' hx k hk=>?_,late:=λk hk hl=>?_,per:=λj x' k hj hk=>?_,beg:=λ_ hh=>?_,notes:=λhh=>?_,bi:=h'.bi,plen:=by simpa using h.plen }
 ·obtain⟨j,hj⟩:=zcm hx;obtain⟨x,q1,rfl⟩:=ev j x' hj;rw[zoM];exact h'.from_ x (zaq q1)
 ·obtain⟨j,hj⟩:=zcm hx;obtain⟨x,q1,rfl⟩:=ev j x' hj;rw[zoM]at hk;rw[v2 k _ hk,h.vd x (zaq q1) k hk,zbg,cond j x k q1 hk]
 ·rw[v2 k _ (zaa hl),h.late k (by omega) hl,zbg,iNQ]
 ·obtain⟨x,q1,rfl⟩:=ev j x' hj;rw[zoM]at hk;exact h.per j x k q1 hk
 ·simp_all
 simp_all
theorem WR.noteN(h:WR l mk i d good first begin out w void n){no:List (zaP×Int)}{n':Notes}(hn:NoteR n' no):WR l mk (i+1) { d with noted:=no } good first begin out w void n':=
 { h.skip with notes:=λ_=>hn }
theorem WR.step(h:WR l mk i d good first begin out w void n)(hw:d.watch.Suspended=false){w':zbZ}{no:List (zaP×Int)}{n':Notes}(hn:NoteR n' no):WR l mk (i+1) { d with noted:=no,watch:=w' } good first begin out w' void n':=
 { h.skip with
   wat:=rfl
   beg:=λa _=>h.beg a hw
   notes:=λ_=>hn }
theorem WR.fine(h:WR l mk i d good first begin out w void n)(hw:d.watch.Suspended=false){w':zbZ}{no:List (zaP×Int)}{n':Notes}(hn:NoteR n' no)(g:za6):WR l mk (i+1) { d with noted:=no,watch:=w',good:=g,some:=true } g false begin out w' void n':=
 { h.skip with
   wat:=rfl
   first:=rfl
   good:=rfl
   beg:=λa _=>h.beg a hw
   notes:=λ_=>hn }
def Oth(l:List zac)(mk:Nat)(void:List Bool):Prop:=∀(k:Nat) (e:zac),l[k]?=some e->e.Stamp.Source≠(mk:Int)->void[k]?=some false
theorem Oth.zero(l:List zac)(mk:Nat):Oth l mk (List.replicate l.length false):=λk e hk _=>by grind
theorem Oth.set(h:Oth l mk void){e:zac}(he:l[i]?=some e)(hs:e.Stamp.Source=(mk:Int))(b:Bool):Oth l mk (void.set i b):=λk f hk hf=>by
 by_cases hki:i=k
 ·simp_all
 ·rw[zdy hki];exact h k f hk hf
theorem Oth.voidTo(h:Oth l mk void){void':List Bool}{one:Bool}(hv:VoidTo l mk good one begin i void void'):Oth l mk void':=λk e hk he=>by rw[hv.2 k e hk,h k e hk he,zbg,show(e.Stamp.Source==(mk:Int))=false by simpa using he,zez,zcF,zga];split<;>rfl
theorem dE_other{s:zan}{d:zay}{e:zac}(h:¬(e.Kind=1/\e.Marker.toNat=mk))(h2:¬(e.Kind=0/\e.Stamp.Source.toNat=mk)):deskE s mk d e=d:=by
 unfold deskE
 simp_all
theorem dE_rein{s:zan}{d:zay}{e:zac}(h:e.Kind=1)(h2:e.Marker.toNat=mk):deskE s mk d e=reinS e.Stamp d:=by
 unfold deskE
 grind
theorem dE_mark{s:zan}{d:zay}{e:zac}(h:e.Kind=0)(h2:e.Stamp.Source.toNat=mk):deskE s mk d e=match fitS s e with
  |some q=>(match seedS s e.Script,s.Papers[q]? with
    |some sd,some p=>noteS s p sd e d
    |none,_=>{ d with marks:=d.marks++[⟨e,d.watch.Suspended⟩] }
    |_,_=>d)
  |none=>d:=by
 unfold deskE
 grind
end
structure ApInv(p:List zaA)(st:List ((Int×Int)×zaA)×List ((Int×Int)×Bool)):Prop where
 nd:(st.1.map (·.1)).Nodup
 val:∀q∈st.1,q.2∈p/\ziG q.2=true/\q.1=idA q.2
 has:∀a∈p,ziG a=true->∃b,mfind (idA a) st.1=some b
 dis:∀k,(mfind k st.2).getD false=true↔∃a∈p,∃b,ziG a=true/\idA a=k/\mfind k st.1=some b/\a≠b
theorem ApInv.step{p:List zaA}{st:List ((Int×Int)×zaA)×List ((Int×Int)×Bool)}(h:ApInv p st)(a:zaA):ApInv (p++[a]) (apStep st a):=by
 unfold apStep;by_cases ha:ziG a=true
 case neg =>
  rw[if_neg ha];refine⟨h.nd,λq hq=>⟨by simp[(h.val q hq).1],(h.val q hq).2⟩,λx hx hv=>?_,λk=>(h.dis k).trans ⟨λ⟨x,hx,r⟩=>⟨x,by simp[hx],r⟩,λ⟨x,hx,b,hv,r⟩=>?_⟩⟩
  · rcases zbh.1 hx with hx|hx
    ·exact h.has x hx hv
    simp_all
  simp_all
 rw[if_pos ha]
 cases hf:mfind (idA a) st.1 with
 |none =>
   have hnew:∀x∈p,ziG x=true->idA x≠idA a:=λx hx hv e=>by
    obtain⟨b,hb⟩:=h.has x hx hv
    simp_all
   have hsame:∀k b,k≠idA a->(mfind k (mput (idA a) a st.1)=some b↔mfind k st.1=some b):=λk b hk=>by rw[zdr a hk]
   refine⟨(zmr h.nd).1,λq hq=>?_,λx hx hv=>?_,λk=>(h.dis k).trans ⟨λ⟨x,hx,b,hv,he,hm,hne⟩=>?_,λ⟨x,hx,b,hv,he,hm,hne⟩=>?_⟩⟩
   · rcases zlB hq with rfl|hq
     ·simp_all
     ·exact⟨by simp[(h.val q hq).1],(h.val q hq).2⟩
   · rcases zbh.1 hx with hx|hx
     · obtain⟨b,hb⟩:=h.has x hx hv
       simp_all
     ·rw[zcr.1 hx];exact⟨a,zc5 _ _ _⟩
   ·exact⟨x,by simp[hx],b,hv,he,(hsame _ _ (by grind)).2 hm,hne⟩
   · rcases zbh.1 hx with hx|hx
     ·grind
     · rw[zcr.1 hx]at he hne;rw[<-he,zc5]at hm
       simp_all
 |some b =>
   have hval:∀q∈st.1,q.2∈p++[a]/\ziG q.2=true/\q.1=idA q.2:=λq hq=>⟨by simp[(h.val q hq).1],(h.val q hq).2⟩
   have hhas:∀x∈p++[a],ziG x=true->∃b,mfind (idA x) st.1=some b:=λx hx hv=>by
    rcases zbh.1 hx with hx|hx
    ·exact h.has x hx hv
    simp_all
   simp only;by_cases hab:a=b
   · rw[if_pos hab];refine⟨h.nd,hval,hhas,λk=>(h.dis k).trans ⟨λ⟨x,hx,r⟩=>⟨x,by simp[hx],r⟩,λ⟨x,hx,b',hv,he,hm,hne⟩=>?_⟩⟩
     grind
   · rw[if_neg hab];refine⟨h.nd,hval,hhas,λk=>?_⟩;by_cases hk:k=idA a
     · subst hk;simp only[zc5,zbN,true_iff]
       simp_all
     · simp only[zdr true hk];refine(h.dis k).trans ⟨λ⟨x,hx,r⟩=>⟨x,by simp[hx],r⟩,λ⟨x,hx,b',hv,he,r⟩=>?_⟩
       grind
theorem zEx:∀(r p:List zaA) (st:List ((Int×Int)×zaA)×List ((Int×Int)×Bool)),ApInv p st->ApInv (p++r) (r.foldl apStep st)
 |[],p,st,h=>by simpa using h
 |a::r,p,st,h=>by have:=zEx r (p++[a]) (apStep st a) (h.step a);simpa using this
theorem apInv(l:List zaA):ApInv l (apMaps l):=by have:=zEx l [] ([],[]) ⟨by simp,by simp,by simp,by simp[mfind]⟩;rw[zeS]at this;exact this
theorem apKeep_mem{l:List zaA}{x:zaA}:x∈apKeep l↔x∈l/\ziG x=true/\∀y∈l,ziG y=true->idA y=idA x->y=x:=by
 have h:=apInv l;unfold apKeep;rw[zel];constructor
 · rintro⟨q,hq,he⟩
   split at he
   ·cases he
   rename_i hd;injection he with he;subst he;obtain⟨v1,v2,v3⟩:=h.val q hq;refine⟨v1,v2,λy hy hv hi=>?_⟩;apply zhw;intro hne;exact hd ((h.dis q.1).2 ⟨y,hy,q.2,hv,hi.trans v3.symm,zry h.nd hq,hne⟩)
 · rintro⟨h1,h2,h3⟩
   obtain⟨b,hb⟩:=h.has x h1 h2;have hq:=zjh hb;obtain⟨v1,v2,v3⟩:=h.val _ hq;have hbx:b=x:=h3 b v1 v2 v3.symm;subst hbx;refine⟨_,hq,?_⟩;rw[if_neg];intro hd;obtain⟨y,hy,b',hv,hi,hm,hne⟩:=(h.dis _).1 hd
   simp_all
theorem apKeep_ids(l:List zaA):(apKeep l).Pairwise λa b=>idA a≠idA b:=by
 have h:=apInv l;unfold apKeep;refine List.Pairwise.filterMap _ (R:=λp q=>p∈(apMaps l).1/\q∈(apMaps l).1/\p.1≠q.1) (λp q hpq x hx y hy=>?_) ?_
 · split at hx
   ·cases hx
   split at hy
   ·cases hy
   injection hx with hx;injection hy with hy;rw[<-hx,<-hy,<-(h.val p hpq.1).2.2,<-(h.val q hpq.2.1).2.2];exact hpq.2.2
 ·have hnd:=h.nd;rw[List.Nodup,zew]at hnd;exact zgu (λha hb hr=>⟨ha,hb,hr⟩) hnd
theorem ap_inj{l:List zaA}{a b:zaA}(ha:a∈apKeep l)(hb:b∈apKeep l)(e:a.Stamp=b.Stamp):a=b:=zA3 (f:=idA) (apKeep_ids l) ha hb (by simp only[idA,e])
theorem zGs(l:List zaA):(isort apLt (apKeep l)).Pairwise (λa b=>lessS b.Stamp a.Stamp=false):=
 zow (lt:=apLt) (λ_ _ _ h1 h2=>znw h1 h2) (λ_ _ h=>zj1 h) _
theorem ap_of{l r:List zaA}(hp:List.Perm r (apKeep l))(hs:r.Pairwise (λa b=>lessS b.Stamp a.Stamp=false)):r=isort apLt (apKeep l):=
 zkL (lt:=apLt) (hp.trans (zht _).symm) hs (zGs l) (λ_ ha _ hb h1 h2=>ap_inj (hp.mem_iff.1 ha) (hp.mem_iff.1 hb) (zDN h1 h2))
theorem zuc{κ ν:Type}[DecidableEq κ]{k:κ}:∀{l:List (κ×ν)},mfind k l=none↔k ∉ l.map (·.1)
 |[]=>by simp[mfind]
 |p::r=>by
   rw[mfind];simp only[zbJ];rw[za4,not_or];by_cases h:p.1=k
   ·grind
   · rw[if_neg h,zuc]
     grind
theorem mput_new{κ ν:Type}[DecidableEq κ]{k:κ}{v:ν}:∀{l:List (κ×ν)},mfind k l=none->mput k v l=l++[(k,v)]
 |[],_=>rfl
 |p::r,h=>by
   rw[mfind]at h;split at h
   ·cases h
   ·rename_i hp;rw[mput,if_neg hp,mput_new h,zgn]
theorem zub{κ ν:Type}[DecidableEq κ](k j:κ)(v:ν)(l:List (κ×ν)):mfind j (mput k v l)=if j=k then some v else mfind j l:=by
 split
 ·rename_i h;rw[h,zc5]
 ·rename_i h;rw[zdr v h]
def setM(l:List Int)(m:List (Int×Bool)):List (Int×Bool):=l.foldl (λm n=>mput n true m) m
theorem zA7(k:Int):∀(l:List Int) (m:List (Int×Bool)),mfind k (setM l m)=if k∈l then some true else mfind k m
 |[],m=>by simp[setM]
 |n::r,m=>by
   show mfind k (setM r (mput n true m))=_;rw[zA7 k r,zub]
   grind
theorem zyO:∀(l:List Int) (m:List (Int×Bool)),l.Nodup->(∀n∈l,mfind n m=none)->setM l m=m++l.map λn=>(n,true)
 |[],m,_,_=>by simp[setM]
 |n::r,m,h,hm=>by
   obtain⟨h1,h2⟩:=zfE.1 h;show setM r (mput n true m)=_
   rw[zyO r _ h2 (λj hj=>by
    rw[zub,if_neg (λe:j=n=>h1 (e▸hj))]
    grind),mput_new (hm n (by simp)),zdC];simp only[zbJ];rw[zhZ]
def addT(n t:Int)(M:List (Int×Int)):List (Int×Int):=match mfind n M with
 |none=>mput n t M
 |some a=>if t<a then mput n t M else M
def addL(l:List Int)(t:Int)(M:List (Int×Int)):List (Int×Int):=l.foldl (λM n=>addT n t M) M
def schedM(s:zan)(m:za9)(c:List zaA)(M:List (Int×Int)):List (Int×Int):=c.foldl (λM a=>addL (scopeL s m a) a.Stamp.Time M) M
theorem addT_find{n t:Int}{M:List (Int×Int)}(h:∀a,mfind n M=some a->a<=t)(k:Int):mfind k (addT n t M)=(mfind k M).or (if k=n then some t else none):=by
 unfold addT
 cases hf:mfind n M with
 |none =>
   simp only;rw[zub]
   grind
 |some a=>grind
theorem zAc{t:Int}(k:Int):∀(l:List Int) {M:List (Int×Int)},(∀k a,mfind k M=some a->a<=t)->mfind k (addL l t M)=(mfind k M).or (if k∈l then some t else none)
 |[],M,_=>by simp[addL]
 |n::r,M,h=>by
   show mfind k (addL r t (addT n t M))=_;have hh:=addT_find (h n)
   rw[zAc k r (λj a hj=>by
    rw[hh]at hj
    cases hm:mfind j M with
    |some b=>grind
    |none=>simp_all),hh]
   grind
theorem zvC:∀(l:List Int) {t:Int} {M:List (Int×Int)},(M.map (·.1)).Nodup->((addL l t M).map (·.1)).Nodup/\∀k,k∈(addL l t M).map (·.1)->k∈l\/k∈M.map (·.1)
 |[],t,M,h=>⟨h,λk hk=>.inr hk⟩
 |n::r,t,M,h=>by
   have hT:((addT n t M).map (·.1)).Nodup/\∀k,k∈(addT n t M).map (·.1)->k=n\/k∈M.map (·.1):=by
    unfold addT;split
    ·exact zmr h
    · split
      ·exact zmr h
      simp_all
   obtain⟨h1,h2⟩:=zvC r (t:=t) hT.1;refine⟨h1,λk hk=>?_⟩;rcases h2 k hk with q|q
   ·grind
   grind
def AscT(c:List zaA):Prop:=c.Pairwise λa b=>a.Stamp.Time<=b.Stamp.Time
theorem zCE(s:zan)(m:za9)(k:Int):∀(c:List zaA) {M:List (Int×Int)},AscT c->(∀k a,mfind k M=some a->∀x∈c,a<=x.Stamp.Time)->mfind k (schedM s m c M)=(mfind k M).or ((c.find? λa=>(scopeL s m a).contains k).map (·.Stamp.Time))
 |[],M,_,_=>by simp[schedM]
 |x::r,M,hc,h=>by
   obtain⟨h1,h2⟩:=zcR.1 hc;have hx:∀k a,mfind k M=some a->a<=x.Stamp.Time:=λk a hk=>h k a hk x (by simp)
   have hL:=λj=>zAc j (scopeL s m x) hx
   show mfind k (schedM s m r (addL (scopeL s m x) x.Stamp.Time M))=_
   rw[zCE s m k r h2 (λj a hj y hy=>by
    rw[hL]at hj
    cases hm:mfind j M with
    |some b=>grind
    |none=>simp_all),hL]
   grind
theorem zwH(s:zan)(m:za9):∀(c:List zaA) {M:List (Int×Int)},(M.map (·.1)).Nodup->((schedM s m c M).map (·.1)).Nodup/\∀k,k∈(schedM s m c M).map (·.1)->(∃x∈s.Scripts,x.Number=k)\/k∈M.map (·.1)
 |[],M,h=>⟨h,λk hk=>.inr hk⟩
 |a::r,M,h=>by
   obtain⟨h1,h2⟩:=zvC (scopeL s m a) (t:=a.Stamp.Time) h;obtain⟨h3,h4⟩:=zwH s m r h1;refine⟨h3,λk hk=>?_⟩;rcases h4 k hk with q|q
   ·exact .inl q
   · rcases h2 k q with q|q
     · unfold scopeL at q
       grind
     ·exact .inr q
theorem num_inj{s:zan}(hs:zb3 s){x y:zaT}(hx:x∈s.Scripts)(hy:y∈s.Scripts)(e:x.Number=y.Number):x=y:=by obtain⟨i,hi,rfl⟩:=zbz.1 hx;obtain⟨j,hj,rfl⟩:=zbz.1 hy;have:=zBl hs.scripts.2.2 hi hj e;subst this;rfl
theorem nums_asc{s:zan}(hs:zkM s.Scripts):(s.Scripts.map (·.Number)).Pairwise (·< ·):=by rw[zew,zcj];intro i j hi hj hij;exact asc_lt hs.2.2 i j hj hij
theorem mem_scopeL{s:zan}(hs:zb3 s)(m:za9)(a:zaA){x:zaT}(hx:x∈s.Scripts):(scopeL s m a).contains x.Number=scopeB s m a x:=by
 unfold scopeL;rw[zdB,zhx,zbs];constructor
 · rintro⟨y,hy,e⟩
   obtain⟨h1,h2⟩:=zcc.1 hy
   rwa[<-num_inj hs h1 hx e]
 grind
theorem sched_time{s:zan}(hs:zb3 s)(m:za9){c:List zaA}(hc:AscT c){x:zaT}(hx:x∈s.Scripts):mfind x.Number (schedM s m c [])=timeS s m c x:=by rw[zCE s m _ c hc (λ_ _ h=>by simp[mfind]at h)];unfold timeS;simp only[mem_scopeL hs m _ hx];rfl
theorem asc_sorted{l:List Int}(h:l.Pairwise (·< ·)):l.mergeSort leI=l:=
 List.mergeSort_of_pairwise (h.imp λh=>by grind)
theorem sorted_of{l r:List Int}(hl:l.Nodup)(hr:r.Pairwise (·< ·))(h:∀k,k∈l↔k∈r):l.mergeSort leI=r:=by
 have hp:List.Perm l r:=(zcN hl (hr.imp λh e=>by omega)).2 h;have h1:(l.mergeSort leI).Pairwise (λa b=>leI a b=true):=List.pairwise_mergeSort (λa b c=>by grind) (λa b=>by grind) l;refine List.Perm.eq_of_pairwise (le:=λa b=>leI a b=true) (λa b _ _ h1 h2=>?_) h1 (hr.imp λh=>by grind) ((List.mergeSort_perm l leI).trans hp)
 grind
theorem zG1{s:zan}(hs:zb3 s)(f:zaT->Option Int):((schedL s f).map (·.1)).Pairwise (·< ·):=by
 unfold schedL;simp only[List.map_filterMap];have h:=nums_asc hs.scripts;rw[zew]at h;refine List.Pairwise.filterMap _ (λa b hab x hx y hy=>?_) h
 simp_all
theorem zs2{s:zan}{f:zaT->Option Int}{p:Int×Int}:p∈schedL s f↔∃x∈s.Scripts,f x=some p.2/\x.Number=p.1:=by
 unfold schedL;rw[zel];constructor
 · rintro⟨x,hx,h⟩
   obtain⟨t,ht,rfl⟩:=zcW.1 h
   grind
 grind
structure Times(s:zan)(f:zaT->Option Int)(M:List (Int×Int)):Prop where
 nd:(M.map (·.1)).Nodup
 num:∀k∈M.map (·.1),∃x∈s.Scripts,x.Number=k
 val:∀x∈s.Scripts,mfind x.Number M=f x
theorem Times.keys{s:zan}{f:zaT->Option Int}{M:List (Int×Int)}(hs:zb3 s)(h:Times s f M):(M.map (·.1)).mergeSort leI=(schedL s f).map (·.1):=by
 refine sorted_of h.nd (zG1 hs f) (λk=>?_);constructor
 · intro hk;obtain⟨x,hx,rfl⟩:=h.num k hk
   cases hf:mfind x.Number M with
   |none=>exact absurd hk (zuc.1 hf)
   |some t=>exact zbs.2 ⟨(x.Number,t),zs2.2 ⟨x,hx,by rw[<-h.val x hx];exact hf,rfl⟩,rfl⟩
 ·intro hk;obtain⟨p,hp,rfl⟩:=zbs.1 hk;obtain⟨x,hx,h1,h2⟩:=zs2.1 hp;apply zhw;intro hn;have:=zuc.2 hn;rw[<-h2,h.val x hx,h1]at this;cases this
theorem Times.find{s:zan}{f:zaT->Option Int}{M:List (Int×Int)}(h:Times s f M){p:Int×Int}(hp:p∈schedL s f):mfind p.1 M=some p.2:=by obtain⟨x,hx,h1,h2⟩:=zs2.1 hp;rw[<-h2,h.val x hx,h1]
theorem Times.few{s:zan}{f:zaT->Option Int}{M:List (Int×Int)}(hs:zb3 s)(h:Times s f M):M.length<=60:=by have h1:=congrArg List.length (h.keys hs);have h2:(schedL s f).length<=s.Scripts.length:=zdg _ _;have h3:=hs.scripts.1;simp at h1;omega
theorem zKw{s:zan}(hs:zb3 s)(m:za9){c:List zaA}(hc:AscT c):Times s (timeS s m c) (schedM s m c []) where
 nd:=(zwH s m c (M:=[]) (by simp)).1
 num:=λk hk=>((zwH s m c (M:=[]) (by simp)).2 k hk).resolve_right (by simp)
 val:=λx hx=>sched_time hs m hc hx
theorem Times.addL{s:zan}{f:zaT->Option Int}{M:List (Int×Int)}(h:Times s f M){l:List Int}{t:Int}(hl:∀n∈l,∃x∈s.Scripts,x.Number=n)(ht:∀x∈s.Scripts,∀a,f x=some a->a<=t):Times s (λx=>(f x).or (if x.Number∈l then some t else none)) (addL l t M) where
 nd:=(zvC l h.nd).1
 num:=λk hk=>((zvC l h.nd).2 k hk).elim (hl k) (h.num k)
 val:=λx hx=>by
  rw[zAc _ l (λk a hk=>?_),h.val x hx];have hm:k∈M.map (·.1):=zhw λq=>by rw[zuc.2 q]at hk;cases hk
  obtain⟨y,hy,rfl⟩:=h.num k hm;rw[h.val y hy]at hk;exact ht y hy a hk
theorem lessS_time{a b:za6}(h:lessS b a=false):a.Time<=b.Time:=by
 unfold lessS at h
 grind
theorem zK1(l:List zaA):AscT (appS l).1:=by
 unfold appS;split
 ·exact List.Pairwise.nil
 ·exact(zGs l).imp λh=>lessS_time h
theorem appS_mem{l:List zaA}{x:zaA}(h:x∈(appS l).1):x∈apKeep l:=by
 unfold appS at h;split at h
 ·simp at h
 ·exact(zht _).mem_iff.1 h
theorem lastT_ge:∀(c:List zaA) (t:Int),t<=c.foldl (λt a=>if t<a.Stamp.Time then a.Stamp.Time else t) t/\∀a∈c,a.Stamp.Time<=c.foldl (λt a=>if t<a.Stamp.Time then a.Stamp.Time else t) t
 |[],t=>⟨zf1 _,by simp⟩
 |x::r,t=>by
   obtain⟨h1,h2⟩:=lastT_ge r (if t<x.Stamp.Time then x.Stamp.Time else t)
   grind
theorem zLd{s:zan}{m:za9}{c:List zaA}{x:zaT}{t:Int}(h:timeS s m c x=some t):∃a∈c,scopeB s m a x=true/\a.Stamp.Time=t:=by
 obtain⟨a,ha,e⟩:=zcW.1 h
 grind
set_option maxRecDepth 100000
theorem ap0(l:List zaA):tReg zbE zT 0 ⟨[(0,sD l)],[]⟩=(some ⟨[(0,sD l)],[]⟩):=by kernel_rfl
theorem ap1(l:List zaA):tReg zbE zT 1 ⟨[(0,sD l)],[]⟩=(some ⟨[(0,sD l),(4,AV.map 14)],[(14,⟨0,zbA,[],false⟩)]⟩):=by kernel_rfl
theorem ap2(l:List zaA):tReg zbE zT 2 ⟨[(0,sD l),(4,AV.map 14)],[(14,⟨0,zbA,[],false⟩)]⟩=(some ⟨[(0,sD l),(4,AV.map 14),(5,AV.map 15)],[(14,⟨0,zbA,[],false⟩),(15,⟨0,zbM,[],false⟩)]⟩):=by kernel_rfl
theorem ap3(l:List zaA):tReg zbE zT 3 ⟨[(0,sD l),(4,AV.map 14),(5,AV.map 15)],[(14,⟨0,zbA,[],false⟩),(15,⟨0,zbM,[],false⟩)]⟩=(some ⟨[(4,AV.map 14),(5,AV.map 15),(16,sD l),(17,I ((↑(mE l).length:Int))),(18,I 0)],[(14,⟨0,zbA,[],false⟩),(15,⟨0,zbM,[],false⟩)]⟩):=by kernel_rfl
theorem ap4(l:List zaA)(m1:List ((Int×Int)×zaA))(m2:List ((Int×Int)×Bool))(n:Int)(i:Int):tReg zbE zT 4 ⟨[(4,AV.map 14),(5,AV.map 15),(16,sD l),(17,I n),(18,I i)],[(14,gK (mQ m1)),(15,gF (mN m2))]⟩=(some ⟨[(4,AV.map 14),(5,AV.map 15),(16,sD l),(17,I n),(18,I i),(19,B (decide (i<n)))],[(14,gK (mQ m1)),(15,gF (mN m2))]⟩):=by kernel_rfl
theorem ap5(l:List zaA)(m1:List ((Int×Int)×zaA))(m2:List ((Int×Int)×Bool))(n:Int)(i:Int):tReg zbE zT 5 ⟨[(4,AV.map 14),(5,AV.map 15),(16,sD l),(17,I n),(18,I i)],[(14,gK (mQ m1)),(15,gF (mN m2))]⟩=(chk ((0:Int)<=i)<|
 elemD zcz (mE l) i.toNat λ(c0:zaA) =>
 some ⟨[(4,AV.map 14),(5,AV.map 15),(7,gQ 7 6),(16,sD l),(17,I n),(18,I i)],[(7,pL c0),(14,gK (mQ m1)),(15,gF (mN m2))]⟩):=by kernel_rfl
theorem ap6(l:List zaA)(m1:List ((Int×Int)×zaA))(m2:List ((Int×Int)×Bool))(n:Int)(i:Int)(x:zaA):tReg zbE zT 6 ⟨[(4,AV.map 14),(5,AV.map 15),(7,gQ 7 6),(16,sD l),(17,I n),(18,I i)],[(7,pL x),(14,gK (mQ m1)),(15,gF (mN m2))]⟩=(callD zag (cw zl3 [pC x] []) λ(r0:Bool)=>some ⟨[(4,AV.map 14),(5,AV.map 15),(7,gQ 7 6),(16,sD l),(17,I n),(18,I i),(24,B (!r0))],[(7,pL x),(14,gK (mQ m1)),(15,gF (mN m2))]⟩):=by kernel_rfl
theorem ap7(l:List zaA)(m1:List ((Int×Int)×zaA))(m2:List ((Int×Int)×Bool))(n:Int)(i:Int)(x:zaA):tReg zbE zT 7 ⟨[(4,AV.map 14),(5,AV.map 15),(7,gQ 7 6),(16,sD l),(17,I n),(18,I i)],[(7,pL x),(14,gK (mQ m1)),(15,gF (mN m2))]⟩=(some ⟨[(4,AV.map 14),(5,AV.map 15),(7,gQ 7 6),(8,gQ 8 2),(16,sD l),(17,I n),(18,I i)],[(7,pL x),(8,pP (x.Stamp.Source,x.Stamp.Seq)),(14,gK (mQ m1)),(15,gF (mN m2))]⟩):=by kernel_rfl
theorem ap8(l:List zaA)(m1:List ((Int×Int)×zaA))(m2:List ((Int×Int)×Bool))(n:Int)(i:Int)(x:zaA)(k:Int×Int):tReg zbE zT 8 ⟨[(4,AV.map 14),(5,AV.map 15),(7,gQ 7 6),(8,gQ 8 2),(16,sD l),(17,I n),(18,I i)],[(7,pL x),(8,pP k),(14,gK (mQ m1)),(15,gF (mN m2))]⟩=(mapD zP 137 true zcz (pC (⟨⟨0,0,0⟩,0,0,0⟩)) (mQ m1) (AV.agg (zbT k)) λ(c0:zaA) (b1:Bool)=>some ⟨[(4,AV.map 14),(5,AV.map 15),(7,gQ 7 6),(8,gQ 8 2),(9,gQ 9 6),(10,B b1),(16,sD l),(17,I n),(18,I i)],[(7,pL x),(8,pP k),(9,pL c0),(14,gK (mQ m1)),(15,gF (mN m2))]⟩):=by kernel_rfl
theorem ap9(l:List zaA)(m1:List ((Int×Int)×zaA))(m2:List ((Int×Int)×Bool))(n:Int)(i:Int)(x:zaA)(k:Int×Int)(z:zaA)(b:Bool):tReg zbE zT 9 ⟨[(4,AV.map 14),(5,AV.map 15),(7,gQ 7 6),(8,gQ 8 2),(9,gQ 9 6),(10,B b),(16,sD l),(17,I n),(18,I i)],[(7,pL x),(8,pP k),(9,pL z),(14,gK (mQ m1)),(15,gF (mN m2))]⟩=(some ⟨[(4,AV.map 14),(5,AV.map 15),(7,gQ 7 6),(8,gQ 8 2),(9,gQ 9 6),(16,sD l),(17,I n),(18,I i),(39,B (!b))],[(7,pL x),(8,pP k),(9,pL z),(14,gK (mQ m1)),(15,gF (mN m2))]⟩):=by kernel_rfl
theorem ap10(l:List zaA)(m1:List ((Int×Int)×zaA))(m2:List ((Int×Int)×Bool))(n:Int)(i:Int)(x:zaA)(k:Int×Int):tReg zbE zT 10 ⟨[(4,AV.map 14),(5,AV.map 15),(7,gQ 7 6),(8,gQ 8 2),(16,sD l),(17,I n),(18,I i)],[(7,pL x),(8,pP k),(14,gK (mQ m1)),(15,gF (mN m2))]⟩=(msetD zP 137 62 (AV.agg (zbT k)) (pC x) (mQ m1) λ(m0:List (List AV))=>some ⟨[(4,AV.map 14),(5,AV.map 15),(16,sD l),(17,I n),(18,I i)],[(14,gK m0),(15,gF (mN m2))]⟩):=by kernel_rfl
theorem ap11(l:List zaA)(m1:List ((Int×Int)×zaA))(m2:List ((Int×Int)×Bool))(n:Int)(i:Int)(x:zaA)(k:Int×Int)(z:zaA):tReg zbE zT 11 ⟨[(4,AV.map 14),(5,AV.map 15),(7,gQ 7 6),(8,gQ 8 2),(9,gQ 9 6),(16,sD l),(17,I n),(18,I i)],[(7,pL x),(8,pP k),(9,pL z),(14,gK (mQ m1)),(15,gF (mN m2))]⟩=(some ⟨[(4,AV.map 14),(5,AV.map 15),(8,gQ 8 2),(16,sD l),(17,I n),(18,I i),(45,B (!(x.Stamp.Time==z.Stamp.Time&&(x.Stamp.Source==z.Stamp.Source&&(x.Stamp.Seq==z.Stamp.Seq&&true))&&(x.Kind==z.Kind&&(x.Candidate==z.Candidate&&(x.Marker==z.Marker&&true))))))],[(8,pP k),(14,gK (mQ m1)),(15,gF (mN m2))]⟩):=by kernel_rfl
theorem ap12(l:List zaA)(m1:List ((Int×Int)×zaA))(m2:List ((Int×Int)×Bool))(n:Int)(i:Int)(x:zaA)(k:Int×Int):tReg zbE zT 12 ⟨[(4,AV.map 14),(5,AV.map 15),(8,gQ 8 2),(16,sD l),(17,I n),(18,I i)],[(8,pP k),(14,gK (mQ m1)),(15,gF (mN m2))]⟩=(msetD zP 137 4 (AV.agg (zbT k)) (B true) (mN m2) λ(m0:List (List AV))=>some ⟨[(4,AV.map 14),(5,AV.map 15),(16,sD l),(17,I n),(18,I i)],[(14,gK (mQ m1)),(15,gF m0)]⟩):=by kernel_rfl
theorem ap13(l:List zaA)(m1:List ((Int×Int)×zaA))(m2:List ((Int×Int)×Bool))(n:Int)(i:Int):tReg zbE zT 13 ⟨[(4,AV.map 14),(5,AV.map 15),(16,sD l),(17,I n),(18,I i)],[(14,gK (mQ m1)),(15,gF (mN m2))]⟩=(some ⟨[(4,AV.map 14),(5,AV.map 15),(16,sD l),(17,I n),(18,I (w64 (i+1)))],[(14,gK (mQ m1)),(15,gF (mN m2))]⟩):=by kernel_rfl
theorem ap14(m1:List ((Int×Int)×zaA))(m2:List ((Int×Int)×Bool)):tReg zbE zT 14 ⟨[(4,AV.map 14),(5,AV.map 15)],[(14,gK (mQ m1)),(15,gF (mN m2))]⟩=(some ⟨[(4,AV.map 14),(5,AV.map 15),(11,AV.row 11 6 0 0)],[(11,⟨6,za8,[],false⟩),(14,gK (mQ m1)),(15,gF (mN m2))]⟩):=by kernel_rfl
theorem ap15(m1:List ((Int×Int)×zaA))(m2:List ((Int×Int)×Bool)):tSeg zbE zT 15 0 1 ⟨[(4,AV.map 14),(5,AV.map 15),(11,AV.row 11 6 0 0)],[(11,⟨6,za8,[],false⟩),(14,gK (mQ m1)),(15,gF (mN m2))]⟩=(some ⟨[(49,AV.map 14),(4,AV.map 14),(5,AV.map 15),(11,AV.row 11 6 0 0)],[(11,⟨6,za8,[],false⟩),(14,gK (mQ m1)),(15,gF (mN m2))]⟩):=by kernel_rfl
theorem ap17(c:List zaA)(m2:List ((Int×Int)×Bool))(p:Addr)(k:Int×Int)(x:zaA):tSeg zbE zT 17 1 6 ⟨[(5,AV.map 15),(11,gR 11 6 (mE c)),(50,AV.v (.pointer (some p))),(53,AV.tup [AV.agg [I k.1,I k.2],AV.agg [I x.Stamp.Time,I x.Stamp.Source,I x.Stamp.Seq,I x.Kind,I x.Candidate,I x.Marker]])],[(11,gL (mE c)),(15,gF (mN m2))]⟩=(some ⟨[(13,gQ 13 6),(12,gQ 12 2),(55,AV.agg [I x.Stamp.Time,I x.Stamp.Source,I x.Stamp.Seq,I x.Kind,I x.Candidate,I x.Marker]),(54,AV.agg [I k.1,I k.2]),(5,AV.map 15),(11,gR 11 6 (mE c)),(50,AV.v (.pointer (some p))),(53,AV.tup [AV.agg [I k.1,I k.2],AV.agg [I x.Stamp.Time,I x.Stamp.Source,I x.Stamp.Seq,I x.Kind,I x.Candidate,I x.Marker]])],[(13,pL x),(12,pP k),(11,gL (mE c)),(15,gF (mN m2))]⟩):=by kernel_rfl
theorem ap18(c:List zaA)(m2:List ((Int×Int)×Bool))(p:Addr)(k:Int×Int)(x:zaA):tReg zbE zT 18 ⟨[(5,AV.map 15),(11,gR 11 6 (mE c)),(12,gQ 12 2),(13,gQ 13 6),(50,AV.v (.pointer (some p)))],[(11,gL (mE c)),(12,pP k),(13,pL x),(15,gF (mN m2))]⟩=(mapD zP 137 false dBool (B false) (mN m2) (AV.agg (zbT k)) λ(c0:Bool) (b1:Bool)=>some ⟨[(5,AV.map 15),(11,gR 11 6 (mE c)),(13,gQ 13 6),(50,AV.v (.pointer (some p))),(59,B (!c0))],[(11,gL (mE c)),(13,pL x),(15,gF (mN m2))]⟩):=by kernel_rfl
theorem ap19(c:List zaA)(m2:List ((Int×Int)×Bool))(p:Addr)(k:Int×Int)(x:zaA):tReg zbE zT 19 ⟨[(5,AV.map 15),(11,gR 11 6 (mE c)),(13,gQ 13 6),(50,AV.v (.pointer (some p)))],[(11,gL (mE c)),(13,pL x),(15,gF (mN m2))]⟩=(chk ((mE c).length=(mE c).length)<|
 chk (((mE c).length+1)*(48+1)<=1099511627776)<|
 chk ((mE c++[[AV.v (Go.Value.int IntKind.i64 x.Stamp.Time),AV.v (Go.Value.int IntKind.i64 x.Stamp.Source),AV.v (Go.Value.int IntKind.i64 x.Stamp.Seq),AV.v (Go.Value.int IntKind.i64 x.Kind),AV.v (Go.Value.int IntKind.i64 x.Candidate),AV.v (Go.Value.int IntKind.i64 x.Marker)]]).length=(mE c++[[AV.v (Go.Value.int IntKind.i64 x.Stamp.Time),AV.v (Go.Value.int IntKind.i64 x.Stamp.Source),AV.v (Go.Value.int IntKind.i64 x.Stamp.Seq),AV.v (Go.Value.int IntKind.i64 x.Kind),AV.v (Go.Value.int IntKind.i64 x.Candidate),AV.v (Go.Value.int IntKind.i64 x.Marker)]]).length)<|
 some ⟨[(5,AV.map 15),(11,gR 11 6 ((mE c)++([[I x.Stamp.Time,I x.Stamp.Source,I x.Stamp.Seq,I x.Kind,I x.Candidate,I x.Marker]]))),(50,AV.v (.pointer (some p)))],[(11,⟨6,za8,(mE c)++([zaw x]),false⟩),(15,gF (mN m2))]⟩):=by kernel_rfl
theorem ap20(c:List zaA):tReg zbE zT 20 ⟨[(11,gR 11 6 (mE c))],[(11,gL (mE c))]⟩=(some ⟨[(11,gR 11 6 (mE c)),(66,B (decide (24<(↑(mE c).length:Int))))],[(11,gL (mE c))]⟩):=by kernel_rfl
theorem ap21(u:Unit):tReg zbE zT 21 ⟨[],[]⟩=(some ⟨[(2,bH),(3,I 3)],[]⟩):=by kernel_rfl
theorem ap22(c:List zaA):tReg zbE zT 22 ⟨[(11,gR 11 6 (mE c))],[(11,gL (mE c))]⟩=(callD zeP (cw zdp [gR 1000 6 (mE c),AV.fn zf2 []] [(1000,gL (mE c))]) λ(r0:(List zaA))=>some ⟨[(11,AV.row 11 6 0 ((mE c).length))],[(11,gL (mE r0))]⟩):=by kernel_rfl
theorem ap23(c:List zaA):tReg zbE zT 23 ⟨[(11,gR 11 6 (mE c))],[(11,gL (mE c))]⟩=(some ⟨[(2,gR 11 6 (mE c)),(3,I 0)],[(11,gL (mE c))]⟩):=by kernel_rfl
set_option maxRecDepth 20000
theorem zDg(a:zaA):cw zl3 [.agg (zaw a)] []=some (zap (ziG a)):=by
 refine zGc ?_;rw[zuK,zKA];unfold ziG
 cases stampB a.Stamp with
 |false=>rfl
 |true =>
   simp only[zaF,zaz,zeL,decide_eq_true_eq,beq_iff_eq,zcx]
   repeat' split
   all_goals refine congrArg (λb=>some (zap b)) ?_
   all_goals(rw[zdB];simp;try grind)
theorem swoA:Go.Sort.SWO apLt where
 irrefl:=λx=>by unfold apLt lessS;simp
 trans:=λx y z h1 h2=>by unfold apLt lessS at h1 h2 ⊢;grind
 ntrans:=λx y z h1 h2=>znw h2 h1
theorem cmpA[Dr](x y:zaA):∃v:Int,cw zf2 [.agg (zaw x),.agg (zaw y)] []=some (.v (.int .i64 v),[])/\decide (v<0)=apLt x y:=
 ⟨_,zyg (by rw[zw6,za7]),cmpS_neg _ _⟩
theorem sortA_ok:CallOK zP (single zdp zOrc):=
 zDS (C:=zC) (A:=zA) (ty:=za8) (nT:=zaw) (lt:=apLt) layA rfl (by kernel_rfl) aggA sizeA (by decide) (λ_=>rfl) (by kernel_rfl) swoA (@cmpA drOn) (λargs ms=>by unfold zOrc;simp(decide:=true) only [if_false,if_true])
theorem c_sortA(l:List zaA)(h:l.length<1000000):cw zdp [.row 1000 6 0 (mE l).length,.fn zf2 []] [(1000,gL (mE l))]=some (zeO (sortS apLt l)):=by
 rw[zad];refine zim sortA_ok ?_;have hz:∀args ms,zOrc zdp args ms=oSort 6 za8 zf2 zaw apLt args ms:=λargs ms=>by unfold zOrc;simp(decide:=true) only [if_false,if_true]
 exact(hz _ _).trans (zA0 (λx y h=>zcz.inj h) h)
set_option maxRecDepth 100000
def acC:Code:=(zbE.fn.body).getD .skip
def acO(j:Nat):Array Oper:=opsAt j acC
def acD(j:Nat):Bool:=zur j acC
theorem ac_hb:zbE.fn.body=some acC:=by kernel_rfl
theorem ac_shape:acC=(.seq (.region 0 (acO 0) (acD 0)) (.seq (.region 1 (acO 1) (acD 1)) (.seq (.region 2 (acO 2) (acD 2)) (.seq (.seq (.region 3 (acO 3) (acD 3)) (.block 0 (.loop (.seq (.region 4 (acO 4) (acD 4)) (.seq (.cond (.tmp 19) .skip (.exit 0)) (.seq (.block 1 (.seq (.region 5 (acO 5) (acD 5)) (.seq (.seq (.region 6 (acO 6) (acD 6)) (.cond (.tmp 24) (.exit 1) .skip)) (.seq (.region 7 (acO 7) (acD 7)) (.seq (.region 8 (acO 8) (acD 8)) (.seq (.region 9 (acO 9) (acD 9)) (.cond (.tmp 39) (.region 10 (acO 10) (acD 10)) (.seq (.region 11 (acO 11) (acD 11)) (.cond (.tmp 45) (.region 12 (acO 12) (acD 12)) .skip))))))))) (.region 13 (acO 13) (acD 13)))))))) (.seq (.region 14 (acO 14) (acD 14)) (.seq (.seq (.region 15 (acO 15) false) (.block 2 (.loop (.seq (.region 16 (acO 16) false) (.seq (.cond (.tmp 52) .skip (.exit 2)) (.block 3 (.seq (.region 17 (acO 17) false) (.seq (.region 18 (acO 18) (acD 18)) (.cond (.tmp 59) (.region 19 (acO 19) (acD 19)) .skip))))))))) (.seq (.seq (.region 20 (acO 20) (acD 20)) (.cond (.tmp 66) (.seq (.region 21 (acO 21) (acD 21)) .ret) .skip)) (.seq (.region 22 (acO 22) (acD 22)) (.seq (.region 23 (acO 23) (acD 23)) .ret))))))))):=by kernel_rfl
theorem ac_r0:regOf 0 acC=some (.region 0 (acO 0) (acD 0)):=by kernel_rfl
theorem ac_r1:regOf 1 acC=some (.region 1 (acO 1) (acD 1)):=by kernel_rfl
theorem ac_r2:regOf 2 acC=some (.region 2 (acO 2) (acD 2)):=by kernel_rfl
theorem ac_r3:regOf 3 acC=some (.region 3 (acO 3) (acD 3)):=by kernel_rfl
theorem ac_r4:regOf 4 acC=some (.region 4 (acO 4) (acD 4)):=by kernel_rfl
theorem ac_r5:regOf 5 acC=some (.region 5 (acO 5) (acD 5)):=by kernel_rfl
theorem ac_r6:regOf 6 acC=some (.region 6 (acO 6) (acD 6)):=by kernel_rfl
theorem ac_r7:regOf 7 acC=some (.region 7 (acO 7) (acD 7)):=by kernel_rfl
theorem ac_r8:regOf 8 acC=some (.region 8 (acO 8) (acD 8)):=by kernel_rfl
theorem ac_r9:regOf 9 acC=some (.region 9 (acO 9) (acD 9)):=by kernel_rfl
theorem ac_r10:regOf 10 acC=some (.region 10 (acO 10) (acD 10)):=by kernel_rfl
theorem ac_r11:regOf 11 acC=some (.region 11 (acO 11) (acD 11)):=by kernel_rfl
theorem ac_r12:regOf 12 acC=some (.region 12 (acO 12) (acD 12)):=by kernel_rfl
theorem ac_r13:regOf 13 acC=some (.region 13 (acO 13) (acD 13)):=by kernel_rfl
theorem ac_r14:regOf 14 acC=some (.region 14 (acO 14) (acD 14)):=by kernel_rfl
theorem ac_r15:regOf 15 acC=some (.region 15 (acO 15) false):=by kernel_rfl
theorem ac_r17:regOf 17 acC=some (.region 17 (acO 17) false):=by kernel_rfl
theorem ac_r18:regOf 18 acC=some (.region 18 (acO 18) (acD 18)):=by kernel_rfl
theorem ac_r19:regOf 19 acC=some (.region 19 (acO 19) (acD 19)):=by kernel_rfl
theorem ac_r20:regOf 20 acC=some (.region 20 (acO 20) (acD 20)):=by kernel_rfl
theorem ac_r21:regOf 21 acC=some (.region 21 (acO 21) (acD 21)):=by kernel_rfl
theorem ac_r22:regOf 22 acC=some (.region 22 (acO 22) (acD 22)):=by kernel_rfl
theorem ac_r23:regOf 23 acC=some (.region 23 (acO 23) (acD 23)):=by kernel_rfl
theorem ac_n:zbE.fn.ntmps<=1000:=by decide
theorem ac_enters:enters zbE.P zd0=true:=by kernel_rfl
noncomputable section
abbrev NA:Nat:=zbE.fn.ntmps
abbrev PA:Program:=zbE.P
abbrev bE3(m1:List ((Int×Int)×zaA)):Nat×Ent:=(14,gK (mQ m1))
abbrev bD3(m2:List ((Int×Int)×Bool)):Nat×Ent:=(15,gF (mN m2))
abbrev stL3(l:List zaA)(i:Int)(m:List ((Int×Int)×zaA)×List ((Int×Int)×Bool)):St:=
 ⟨[(4,.map 14),(5,.map 15),(16,.sl 6 (mE l)),(17,I (mE l).length),(18,I i)],[bE3 m.1,bD3 m.2]⟩
abbrev stM3(m:List ((Int×Int)×zaA)×List ((Int×Int)×Bool)):St:=⟨[(4,.map 14),(5,.map 15)],[bE3 m.1,bD3 m.2]⟩
section
variable{w0:World}{S0:Nat->Prop}{κ0:Kap}{K:Nat->Prop}{a:Act}{w:World}
theorem acStep{j:Nat}{st st':St}{X:Sat2}(hX:Stable X)(hr:regOf j acC=some (.region j (acO j) (acD j)))(ht:tReg zbE zT j st=some st')
  (h:NowP w0 S0 κ0 K NA X st a w) {Q:Exit->Act->World->Prop} (hQ:∀a' w',NowP w0 S0 κ0 K NA X st' a' w'->Q .normal a' w'):(Code.region j (acO j) (acD j)).wp PA Q a w:=stepP hX ac_hb ac_n hr ht h hQ
theorem ap_ne(x z:zaA):(!(x.Stamp.Time==z.Stamp.Time&&(x.Stamp.Source==z.Stamp.Source&&(x.Stamp.Seq==z.Stamp.Seq&&true))&&(x.Kind==z.Kind&&(x.Candidate==z.Candidate&&(x.Marker==z.Marker&&true)))))=!decide (x=z):=by
 congr 1;rw[zdB];obtain⟨⟨a,b,c⟩,d,e,f⟩:=x;obtain⟨⟨a',b',c'⟩,d',e',f'⟩:=z
 simp_all
theorem ac_maps{l:List zaA}(hl:l.length<1000000)(h:NowP w0 S0 κ0 K NA X0 ⟨[(0,.sl 6 (mE l)),(4,.map 14),(5,.map 15)],[bE3 [],bD3 []]⟩ a w){Q:Exit->Act->World->Prop}
  (hQ:∀a' w',NowP w0 S0 κ0 K NA X0 (stM3 (apMaps l)) a' w'->Q .normal a' w'):(Code.seq (.region 3 (acO 3) (acD 3)) (.block 0 (.loop (.seq (.region 4 (acO 4) (acD 4)) (.seq (.cond (.tmp 19) .skip (.exit 0)) (.seq (.block 1 (.seq (.region 5 (acO 5) (acD 5)) (.seq (.seq (.region 6 (acO 6) (acD 6)) (.cond (.tmp 24) (.exit 1) .skip)) (.seq (.region 7 (acO 7) (acD 7)) (.seq (.region 8 (acO 8) (acD 8)) (.seq (.region 9 (acO 9) (acD 9)) (.cond (.tmp 39) (.region 10 (acO 10) (acD 10)) (.seq (.region 11 (acO 11) (acD 11)) (.cond (.tmp 45) (.region 12 (acO 12) (acD 12)) .skip))))))))) (.region 13 (acO 13) (acD 13)))))))).wp PA Q a w:=by
 refine wp_seq (acStep Stable.none ac_r3 (ap3 l) h (λa1 w1 h1=>?_));refine wp_block (wp_loop (λa w=>∃k:Nat,k<=l.length/\NowP w0 S0 κ0 K NA X0 (stL3 l k ((l.take k).foldl apStep ([],[]))) a w) (λa _=>l.length-cnt a 18) ⟨0,zdh _,h1⟩ ?_)
 rintro a w ⟨k,hk,hn⟩
 have hc0:cnt a 18=k:=by rw[hn.cnt (n:=(k:Int)) rfl];simp
 generalize hst:(l.take k).foldl apStep ([],[])=st at hn;obtain⟨m1,m2⟩:=st;refine wp_seq (acStep Stable.none ac_r4 (ap4 l m1 m2 _ _) hn (λa2 w2 h2=>?_));refine wp_seq (wp_cond (h2.bool (b:=decide ((k:Int)<(mE l).length)) rfl) ?_);by_cases hlt:k<l.length
 case neg =>
  rw[decide_eq_false (by simp;omega),iNs]
  have e:apMaps l=(m1,m2):=by
   unfold apMaps
   grind
  exact wp_exit (hQ _ _ (by rw[e];exact h2.trim Stable.none [4,5] [] (by kernel_rfl)))
 rw[decide_eq_true (by simp;omega),if_pos rfl];refine wp_skip ?_;have h3:=h2.trim Stable.none [4,5,16,17,18] [] (st':=stL3 l k (m1,m2)) (by kernel_rfl)
 have hnext:(l.take (k+1)).foldl apStep ([],[])=apStep (m1,m2) l[k]:=by rw[zco hlt,zKM,hst];rfl
 have t5:=ap5 l m1 m2 (mE l).length k;rw[cPQ,zjE,show((k:Int)).toNat=k from rfl,zaa hlt,zae]at t5;generalize l[k]=x at t5 hnext
 have fin:∀{Q':Exit->Act->World->Prop} (m:List ((Int×Int)×zaA)×List ((Int×Int)×Bool)) (a1:Act) (w1:World),apStep (m1,m2) x=m->NowP w0 S0 κ0 K NA X0 (stL3 l k m) a1 w1->(∀a' w',((∃k:Nat,k<=l.length/\NowP w0 S0 κ0 K NA X0 (stL3 l k ((l.take k).foldl apStep ([],[]))) a' w')/\l.length-cnt a' 18<l.length-cnt a 18)->Q' .normal a' w')->(Code.region 13 (acO 13) (acD 13)).wp PA Q' a1 w1:=by
  intro Q' m a1 w1 hm hh hq;have t:=ap13 l m.1 m.2 (mE l).length k;rw[w6Q]at t;refine acStep Stable.none ac_r13 t hh (λa6 w6 h6=>hq _ _ ⟨⟨k+1,hlt,?_⟩,?_⟩)
  ·grind
  · have:cnt a6 18=k+1:=by rw[h6.cnt (n:=(k:Int)+1) rfl];omega
    omega
 refine wp_seq (wp_block (wp_seq (acStep Stable.none ac_r5 t5 h3 (λa5 w5 h5=>?_))));have t6:=ap6 l m1 m2 (mE l).length k x;rw[zDg,zKA]at t6;refine wp_seq (wp_seq (acStep Stable.none ac_r6 t6 h5 (λa6 w6 h6=>?_)));refine wp_cond (h6.bool (b:=!ziG x) rfl) ?_
 cases hv:ziG x with
 |false=>rw[if_pos (by rfl)];exact wp_exit (fin (m1,m2) _ _ (by unfold apStep;rw[hv];rfl) (h6.trim Stable.none [4,5,16,17,18] [7] (by kernel_rfl)) (λ_ _ q=>q))
 |true =>
   rw[iNs];refine wp_skip ?_;have h7:=h6.trim Stable.none [4,5,7,16,17,18] [] (st':=⟨[(4,.map 14),(5,.map 15),(7,.loc 7 6 0 0),(16,.sl 6 (mE l)),(17,I (mE l).length),(18,I k)],[(7,pL x),bE3 m1,bD3 m2]⟩) (by kernel_rfl);refine wp_seq (acStep Stable.none ac_r7 (ap7 l m1 m2 _ k x) h7 (λa8 w8 h8=>?_));have t8:=ap8 l m1 m2 (mE l).length k x (idA x);rw[zwD]at t8;refine wp_seq (acStep Stable.none ac_r8 t8 h8 (λa9 w9 h9=>?_));refine wp_seq (acStep Stable.none ac_r9 (ap9 l m1 m2 _ k x (idA x) _ _) h9 (λa10 w10 h10=>?_));refine wp_cond (h10.bool (b:=!(mfind (idA x) m1).isSome) rfl) ?_
   cases hf:mfind (idA x) m1 with
   |none=>rw[if_pos (by rfl)];rw[hf]at h10;have h11:=h10.trim Stable.none [4,5,7,8,16,17,18] [9] (st':=⟨[(4,.map 14),(5,.map 15),(7,.loc 7 6 0 0),(8,.loc 8 2 0 0),(16,.sl 6 (mE l)),(17,I (mE l).length),(18,I k)],[(7,pL x),(8,pP (idA x)),bE3 m1,bD3 m2]⟩) (by kernel_rfl);have t10:=ap10 l m1 m2 (mE l).length k x (idA x);rw[zwI]at t10;exact acStep Stable.none ac_r10 t10 h11 (λa12 w12 h12=>fin (mput (idA x) x m1,m2) _ _ (by unfold apStep;simp_all) h12 (λ_ _ q=>q))
   |some z =>
     rw[iNs];rw[hf]at h10;have h11:=h10.trim Stable.none [4,5,7,8,9,16,17,18] [] (st':=⟨[(4,.map 14),(5,.map 15),(7,.loc 7 6 0 0),(8,.loc 8 2 0 0),(9,.loc 9 6 0 0),(16,.sl 6 (mE l)),(17,I (mE l).length),(18,I k)],[(7,pL x),(8,pP (idA x)),(9,pL z),bE3 m1,bD3 m2]⟩) (by kernel_rfl);have t11:=ap11 l m1 m2 (mE l).length k x (idA x) z;rw[ap_ne]at t11;refine wp_seq (acStep Stable.none ac_r11 t11 h11 (λa12 w12 h12=>?_));refine wp_cond (h12.bool (b:=!decide (x=z)) rfl) ?_;by_cases hxz:x=z
     ·rw[decide_eq_true hxz,iNs];exact wp_skip (fin (m1,m2) _ _ (by unfold apStep;simp_all) (h12.trim Stable.none [4,5,16,17,18] [8] (by kernel_rfl)) (λ_ _ q=>q))
     ·rw[decide_eq_false hxz,if_pos (by rfl)];rw[decide_eq_false hxz]at h12;have h13:=h12.trim Stable.none [4,5,8,16,17,18] [] (st':=⟨[(4,.map 14),(5,.map 15),(8,.loc 8 2 0 0),(16,.sl 6 (mE l)),(17,I (mE l).length),(18,I k)],[(8,pP (idA x)),bE3 m1,bD3 m2]⟩) (by kernel_rfl);have t12:=ap12 l m1 m2 (mE l).length k x (idA x);rw[zvg]at t12;exact acStep Stable.none ac_r12 t12 h13 (λa14 w14 h14=>fin (m1,mput (idA x) true m2) _ _ (by unfold apStep;simp_all) h14 (λ_ _ q=>q))
def pickA(m2:List ((Int×Int)×Bool))(p:(Int×Int)×zaA):Option zaA:=if(mfind p.1 m2).getD false then none else some p.2
def apsOf(m:List ((Int×Int)×zaA)×List ((Int×Int)×Bool))(done:List Nat):List zaA:=done.filterMap λj=>m.1[j]?.bind (pickA m.2)
theorem zJJ{l:List zaA}{done:List Nat}(hd:done.Nodup)(h1:∀i∈done,i<(apMaps l).1.length)(h2:∀i,i<(apMaps l).1.length->i∈done):List.Perm (apsOf (apMaps l) done) (apKeep l):=by
 have hp:List.Perm done (List.range (apMaps l).1.length):=(zcN hd zjQ).2 (λi=>⟨λh=>ze9.2 (h1 i h),λh=>h2 i (ze9.1 h)⟩)
 have e:apKeep l=apsOf (apMaps l) (List.range (apMaps l).1.length):=by
  unfold apKeep apsOf;have:(apMaps l).1=(List.range (apMaps l).1.length).filterMap λj=>(apMaps l).1[j]?:=(zs4 _).symm
  conv=>lhs;rw[this]
  rw[List.filterMap_filterMap];rfl
 rw[e];exact hp.filterMap _
abbrev sR3(c:List zaA):Nat×AV:=(11,.row 11 6 0 (mE c).length)
abbrev bR3(c:List zaA):Nat×Ent:=(11,gL (mE c))
abbrev sP3(r:Nat):Nat×AV:=(50,.v (.pointer (some ⟨r,0,none⟩)))
theorem ac_range{m:List ((Int×Int)×zaA)×List ((Int×Int)×Bool)}(hl:m.1.length<1000000)
  (h:NowP w0 S0 κ0 K NA X0 ⟨[(4,.map 14),(5,.map 15),(11,.row 11 6 0 0)],[(11,⟨6,za8,[],false⟩),bE3 m.1,bD3 m.2]⟩ a w) {Q:Exit->Act->World->Prop}
  (hQ:∀done a' w',done.Nodup->(∀i∈done,i<m.1.length)->(∀i,i<m.1.length->i∈done)->NowP w0 S0 κ0 K NA X0 ⟨[sR3 (apsOf m done)],[bR3 (apsOf m done)]⟩ a' w'->Q .normal a' w'):(Code.seq (.region 15 (acO 15) false) (.block 2 (.loop (.seq (.region 16 (acO 16) false) (.seq (.cond (.tmp 52) .skip (.exit 2)) (.block 3 (.seq (.region 17 (acO 17) false) (.seq (.region 18 (acO 18) (acD 18)) (.cond (.tmp 59) (.region 19 (acO 19) (acD 19)) .skip))))))))).wp PA Q a w:=by
 obtain⟨m1,m2⟩:=m;refine wp_seq (wp_region ?_);have z15:(acO 15).size=2:=by kernel_rfl
 rw[z15,show List.range 2=List.range' 0 1++[1]from rfl];refine segP Stable.none ac_hb ac_n ac_r15 (ap15 m1 m2) (by rw[z15];decide) h (λa1 w1 h1=>?_);have h2:=h1.freeze Stable.none ac_n [14] (by kernel_rfl) (st':=⟨[(49,.mp (mQ m1)),(4,.mp (mQ m1)),(5,.map 15),(11,.row 11 6 0 0)],[(11,⟨6,za8,[],false⟩),bD3 m2]⟩) (by kernel_rfl);rw[wpOps_cons];refine zDU (t:=135) (k:=137) (e:=62) (by unfold opIs;kernel_rfl) (by kernel_rfl) (by decide) h2 (m:=49) (d:=50) rfl (λa3 w3 r q en clock h3=>?_);have h4:=h3.trim Rng.stable [5,11,50] [] (st':=⟨[(5,.map 15),sR3 (apsOf (m1,m2) []),sP3 r],[bR3 (apsOf (m1,m2) []),bD3 m2]⟩) (by kernel_rfl);refine zDW (it:=50) (d1:=51) (d2:=52) (r:=r) (stf:=λdone=>⟨[(5,.map 15),sR3 (apsOf (m1,m2) done),sP3 r],[bR3 (apsOf (m1,m2) done),bD3 m2]⟩) [5,11,50] (by kernel_rfl) (by unfold opIs;kernel_rfl) (by unfold opIs;kernel_rfl) (by decide) (by decide) (λ_=>rfl) (λ_ _ _=>by kernel_rfl) ?_ h4 ?_
 · intro done j k v hd hdl hjd hkv a w hn
   have hj:j<m1.length:=by have:=(zam.1 hkv).1;simpa using this
   rw[zbC,zaa hj]at hkv
   have hev:apsOf (m1,m2) (done++[j])=apsOf (m1,m2) done++(pickA m2 m1[j]).toList:=by unfold apsOf;rw[List.filterMap_append];congr 1;show(List.filterMap _ [j])=_;rw[List.filterMap_cons];simp only[zaa hj,zae,List.filterMap_nil];cases pickA m2 m1[j]<;>rfl
   have hlen:(apsOf (m1,m2) done).length<1000000:=by have:(apsOf (m1,m2) done).length<=done.length:=zdg _ _;have:=zvQ hd (n:=m1.length) (λi hi=>by simpa using hdl i hi);simp only at hl;omega
   simp only[hev];generalize apsOf (m1,m2) done=c at hn hlen ⊢;generalize hx:m1[j]=x at hkv ⊢;obtain⟨ky,x⟩:=x;simp only[zbg,zaf,zbF,zax,and_true]at hkv;obtain⟨rfl,rfl⟩:=hkv;refine wp_block (wp_seq (wp_region ?_));have z17:(acO 17).size=7:=by kernel_rfl
   rw[z17,show List.range 7=0::(List.range' 1 6++[])from rfl,wpOps_cons];refine zDD (by unfold opIs;kernel_rfl) (by decide) hn (it:=50) (d:=53) rfl (by rw[zbC,zaa hj,hx];rfl) (λa1 w1 h1=>?_);have h2:=h1.trim Rng.stable [5,11,50,53] [] (st':=⟨[(5,.map 15),sR3 c,sP3 r,(53,.tup [.agg (zbT ky),.agg (zaw x)])],[bR3 c,bD3 m2]⟩) (by kernel_rfl);refine segP Rng.stable ac_hb ac_n ac_r17 (ap17 c m2 _ ky x) (by rw[z17];decide) h2 (λa3 w3 h3=>?_);have h4:=h3.trim Rng.stable [5,11,12,13,50] [] (st':=⟨[(5,.map 15),sR3 c,(12,.loc 12 2 0 0),(13,.loc 13 6 0 0),sP3 r],[bR3 c,(12,pP ky),(13,pL x),bD3 m2]⟩) (by kernel_rfl);have t18:=ap18 c m2 ⟨r,0,none⟩ ky x;rw[zu6]at t18;refine wp_seq (acStep Rng.stable ac_r18 t18 h4 (λa5 w5 h5=>?_));refine wp_cond (h5.bool (b:=!(mfind ky m2).getD false) rfl) ?_
   cases hdsp:(mfind ky m2).getD false with
   |true =>
     rw[iNs];rw[hdsp]at h5;refine wp_skip ⟨rfl,?_⟩;have e:pickA m2 (ky,x)=none:=by unfold pickA;simp[hdsp]
     rw[e];simp only[Option.toList_none,zdx];exact h5.trim Rng.stable [5,11,50] [13] (by kernel_rfl)
   |false =>
     rw[if_pos (by simp)];rw[hdsp]at h5;have h6:=h5.trim Rng.stable [5,11,13,50] [] (st':=⟨[(5,.map 15),sR3 c,(13,.loc 13 6 0 0),sP3 r],[bR3 c,(13,pL x),bD3 m2]⟩) (by kernel_rfl);have t19:=ap19 c m2 ⟨r,0,none⟩ ky x;rw[zao rfl,zao (by simp;omega),zao rfl]at t19;refine acStep Rng.stable ac_r19 t19 h6 (λa7 w7 h7=>⟨rfl,?_⟩);have e:pickA m2 (ky,x)=some x:=by unfold pickA;simp[hdsp]
     grind
 ·intro done hd hdl hall a' w' hn;refine hQ done a' w' hd (λi hi=>by simpa using hdl i hi) (λi hi=>hall i (by simpa using hi)) ?_;exact(hn.trim Rng.stable [11] [15] (by kernel_rfl)).drop
theorem ac_sort{l c:List zaA}(hl:l.length<1000000)(hp:List.Perm c (apKeep l))(hc:c.length<1000000):cw zdp [.row 1000 6 0 (mE c).length,.fn zf2 []] [(1000,gL (mE c))]=some (zeO (isort apLt (apKeep l))):=by rw[c_sortA c hc,ap_of ((zui (lt:=apLt) swoA c).trans hp) (zvf (lt:=apLt) swoA c)]
theorem zEy(l:List zaA):(apKeep l).length<=(apMaps l).1.length:=zdg _ _
theorem zEz(l:List zaA):(apMaps l).1.length<=l.length:=by
 have key:∀(r:List zaA) (st:List ((Int×Int)×zaA)×List ((Int×Int)×Bool)),(r.foldl apStep st).1.length<=st.1.length+r.length:=by
  intro r
  induction r with
  |nil=>intro st;simp
  |cons a r ih =>
    intro st;have h1:=ih (apStep st a)
    have h2:(apStep st a).1.length<=st.1.length+1:=by
     unfold apStep;split
     · split
       ·exact zss
       ·split<;>simp
     ·simp
    grind
 have:=key l ([],[]);simpa[apMaps]using this
theorem ac_body{l:List zaA}(hl:l.length<1000000)(h:NowP w0 S0 κ0 K NA X0 ⟨[(0,.sl 6 (mE l))],[]⟩ a w):acC.wp PA (PostC w0 S0 κ0 K NA .ret (if 24<(apKeep l).length then⟨[(2,.v (.slice none 0 0)),(3,I 3)],[]⟩else⟨[(2,.row 11 6 0 (mE (isort apLt (apKeep l))).length),(3,I 0)],[bR3 (isort apLt (apKeep l))]⟩)) a w:=by
 rw[ac_shape];refine wp_seq (acStep Stable.none ac_r0 (ap0 l) h (λa1 w1 h1=>?_));refine wp_seq (acStep Stable.none ac_r1 (ap1 l) h1 (λa2 w2 h2=>?_));refine wp_seq (acStep Stable.none ac_r2 (ap2 l) h2 (λa3 w3 h3=>?_));refine wp_seq (ac_maps hl h3 (λa4 w4 h4=>?_));refine wp_seq (acStep Stable.none ac_r14 (ap14 _ _) h4 (λa5 w5 h5=>?_));have hml:=zEz l;refine wp_seq (ac_range (m:=apMaps l) (by omega) h5 (λdone a6 w6 d1 d2 d3 h6=>?_));have hp:=zJJ d1 d2 d3;generalize apsOf (apMaps l) done=c at h6 hp;have hcl:=hp.length_eq;have hkl:=zEy l;refine wp_seq (wp_seq (acStep Stable.none ac_r20 (ap20 c) h6 (λa7 w7 h7=>?_)));refine wp_cond (h7.bool (b:=decide (24<((mE c).length:Int))) rfl) ?_;by_cases hfew:24<(apKeep l).length
 ·rw[decide_eq_true (by simp;omega),if_pos rfl,if_pos hfew];have h8:=h7.trim Stable.none [] [11] (st':=⟨[],[]⟩) (by kernel_rfl);refine wp_seq (acStep Stable.none ac_r21 (ap21 ()) h8 (λa9 w9 h9=>?_));refine wp_ret ⟨rfl,?_⟩;obtain⟨S,κ,hg,_⟩:=h9;exact⟨S,κ,hg⟩
 · rw[decide_eq_false (by simp;omega),iNs,if_neg hfew];refine wp_skip ?_;have h8:=h7.trim Stable.none [11] [] (st':=⟨[sR3 c],[bR3 c]⟩) (by kernel_rfl);have t22:=ap22 c;rw[show List.length (mE c)=(mE c).length from rfl,ac_sort hl hp (by omega),zlL]at t22
   have hlen:(mE c).length=(mE (isort apLt (apKeep l))).length:=by rw[zad,zad,hcl,(zht _).length_eq]
   refine wp_seq (acStep Stable.none ac_r22 t22 h8 (λa9 w9 h9=>?_));rw[hlen]at h9;refine wp_seq (acStep Stable.none ac_r23 (ap23 (isort apLt (apKeep l))) h9 (λa10 w10 h10=>?_));refine wp_ret ⟨rfl,?_⟩;obtain⟨S,κ,hg,_⟩:=h10;exact⟨S,κ,hg⟩
end
theorem appeals_ok:CallOK zP (single zd0 zOrc):=by
 intro f args ms r ms' h;unfold single at h;split at h
 case isFalse=>cases h
 rename_i hf;subst hf
 cases ms with
 |cons a m =>
   have hz:zOrc zd0 args (a::m)=none:=by unfold zOrc;simp(decide:=true) only [if_false,if_true]
   grind
 |nil =>
 have hz:zOrc zd0 args []=zva args:=by unfold zOrc;simp(decide:=true) only [if_false,if_true]
 rw[hz]at h;clear hz;unfold zva at h;split at h
 case isFalse=>cases h
 rename_i hex;have hsp:=hex.choose_spec;generalize hex.choose=l at h hsp;obtain⟨rfl,hl⟩:=hsp;injection h with h;injection h with h1 h2;subst h1 h2;refine⟨ac_enters,λw S κ vals hvl hS hv hms hinj=>?_⟩;have hf:zbE.P.funcs[zd0]?=some zbE.fn:=by kernel_rfl
 refine zqw (args:=[.sl 6 (mE l)]) (frz:=false) (ex:=.ret) hf ac_hb (show 1<=zbE.fn.ntmps by decide) hvl hS hv hms hinj (λid=>by simp) (λa hg=>?_) (st:=if 24<(apKeep l).length then⟨[(2,.v (.slice none 0 0)),(3,I 3)],[]⟩else⟨[(2,.row 11 6 0 (mE (isort apLt (apKeep l))).length),(3,I 0)],[bR3 (isort apLt (apKeep l))]⟩) ?_ ?_ ?_
 ·obtain⟨S,κ,hg⟩:=hg;exact ac_body hl ⟨S,κ,hg,trivial⟩
 · unfold appS bR3;split
   ·kernel_rfl
   ·generalize mE (isort apLt (apKeep l))=xs;rw[show ziU zbE.P false zbE.fn ⟨[(2,.row 11 6 0 xs.length),(3,I 0)],[(11,gL xs)]⟩=outOf false ([(11,gL xs)]) (.tup [.row 11 6 0 xs.length,I 0])from by kernel_rfl];simp[outOf,snap,mapO,Ab.look]
 ·split<;>kernel_rfl
 ·kernel_rfl
theorem zAi{l:List zaA}(hl:l.length<1000000):cw zd0 [.sl 6 (mE l)] []=some (zoB (appS l)):=by
 refine zim appeals_ok ?_;show zOrc zd0 [.sl 6 (mE l)] []=_
 have hz:zOrc zd0 [.sl 6 (mE l)] []=zva [.sl 6 (mE l)]:=by unfold zOrc;simp(decide:=true) only [if_false,if_true]
 rw[hz];unfold zva;have hex:∃l',[sD l]=[.sl 6 (mE l')]/\l'.length<1000000:=⟨l,rfl,hl⟩
 rw[dif_pos hex];have hsp:=hex.choose_spec;generalize hex.choose=l' at hsp;have h1:=hsp.1;simp only[zax,AV.sl.injEq,true_and,and_true]at h1;have:l=l':=Eq.mp (TyD.minj zcz) h1;subst this;rfl
end
end Go.Proofs.YtlecnobdfhlmnaaGreat
end
