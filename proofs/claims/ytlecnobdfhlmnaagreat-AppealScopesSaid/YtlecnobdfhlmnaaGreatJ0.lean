/- Loops and branches of printed trees. -/
import Derived.Test.YtlecnobdfhlmnaaGreatK4
import Derived.Test.YtlecnobdfhlmnaaGreatAb9
set_option linter.unusedSimpArgs false
set_option linter.unusedVariables false
noncomputable section
namespace Go.Proofs.YtlecnobdfhlmnaaGreat
open Go.Ab
theorem w6Q{n:Int}(h1:-9223372036854775808<=n:=by omega)(h2:n<9223372036854775808:=by omega):w64 n=n:=w64_id h1 h2
theorem iNQ{c:Prop}[Decidable c]{α:Type}{t e:α}(h:¬c:=by omega):ite c t e=e:=if_neg h
theorem iPQ{c:Prop}[Decidable c]{α:Type}{t e:α}(h:c:=by omega):ite c t e=t:=if_pos h
theorem iNs{c:Prop}[Decidable c]{α:Type}{t e:α}(h:¬c:=by simp):ite c t e=e:=if_neg h
theorem cPQ{p:Prop}{β:Type}{x:Option β}(h:p:=by omega):chk p x=x:=zao h x
theorem zbj{p:Prop}(h:p):dec p=true:=by unfold dec;simp[h]
theorem zbB{p:Prop}(h:¬p):dec p=false:=by unfold dec;simp[h]
theorem zhE{p q:Prop}(h:p↔q):dec p=dec q:=by rw[propext h]
theorem zns{p:Prop}:dec p=true↔p:=by unfold dec;simp
theorem zfG{b:Bool}{p:Prop}(h:b=true↔p):b=dec p:=by
 by_cases hp:p
 ·rw[zbj hp];exact h.2 hp
 ·rw[zbB hp];simp_all
theorem zeL{β:Type}(b:Bool)(t e:Option β):brn b t e=if b=true then t else e:=by cases b<;>rfl
variable{α β:Type}
theorem zcl(l:List α)(P:Int->List α->Prop)(h0:P l.length [])
  (hs:∀(i:Nat) (hi:i<l.length) (r:List α),l.drop (i+1)=r->P ((i:Int)+1) r->P i (l[i]::r)):P 0 l:=by
 have key:∀(n i:Nat),i+n=l.length->P (i:Int) (l.drop i):=by
  intro n
  induction n with
  |zero=>simp_all
  |succ n ih =>
    intro i hi;have hlt:i<l.length:=by omega
    rw[zbd hlt]
    grind
 have:=key l.length 0 (by omega);simpa using this
theorem zoQ(n:Nat)(G:∀j,j<n->Prop)(K:Int->Option β)(S:β->Prop)(z:β)(h0:(∀j hj,G j hj)->K n=some z)
  (hno:∀(i:Nat) (hi:i<n),(∀j (hj:j<i),G j (by omega))->¬G i hi->∃y,S y/\K i=some y) (hyes:∀(i:Nat) (hi:i<n) (y:β),G i hi->K ((i:Int)+1)=some y->K i=some y):((∀j hj,G j hj)/\K 0=some z)\/((∃j hj,¬G j hj)/\∃y,S y/\K 0=some y):=by
 have key:∀(m i:Nat),i+m=n->(∀j (hj:j<i) (hn:j<n),G j hn)->((∀j hj,i<=j->G j hj)/\K (i:Int)=some z)\/((∃j hj,¬G j hj)/\∃y,S y/\K (i:Int)=some y):=by
  intro m
  induction m with
  |zero=>simp_all
  |succ m ih =>
    intro i hi hpre;by_cases hg:G i (by omega)
    · have:=ih (i+1) (by omega) (λj hj hn=>by grind)
      grind
    ·exact .inr ⟨⟨i,by omega,hg⟩,hno i (by omega) (λj hj=>hpre j hj _) hg⟩
 rcases key n 0 (by omega) (λj hj=>by omega)with⟨h1,h2⟩|h
 ·simp_all
 ·exact .inr h
theorem zmx(n:Nat)(G:∀j,j<n->Prop)(K:Int->Option β)(q:Bool->β)(h0:K n=some (q true))
  (hno:∀(i:Nat) (hi:i<n),¬G i hi->K i=some (q false)) (hyes:∀(i:Nat) (hi:i<n) (y:β),G i hi->K ((i:Int)+1)=some y->K i=some y):K 0=some (q (dec (∀j hj,G j hj))):=by
 rcases zoQ n G K (λx=>x=q false) (q true) (λ_=>h0) (λi hi _ h=>⟨_,rfl,hno i hi h⟩) hyes with⟨h1,h2⟩|⟨⟨j,hj,h1⟩,y,rfl,h2⟩
 ·rw[h2,zbj h1]
 ·rw[h2,zbB (λh=>h1 (h j hj))]
theorem any_bool(n:Nat)(G:∀j,j<n->Prop)(K:Int->Option β)(q:Bool->β)(h0:K n=some (q false))
  (hyes:∀(i:Nat) (hi:i<n),G i hi->K i=some (q true)) (hno:∀(i:Nat) (hi:i<n) (y:β),¬G i hi->K ((i:Int)+1)=some y->K i=some y):K 0=some (q (dec (∃j hj,G j hj))):=by
 have h:=zmx n (λi hi=>¬G i hi) K (λb=>q (!b)) (by simpa using h0) (λi hi hg=>by simp_all) hno;rw[h];congr 2;by_cases hp:∃j hj,G j hj
 ·rw[zbj hp,zbB (λh=>by simp_all)];rfl
 ·rw[zbB hp,zbj (λj h1 h2=>hp ⟨j,h1,h2⟩)];rfl
theorem all_err(n:Nat)(G:∀j,j<n->Prop)(K:Int->Option β)(q:Int->β)(h0:K n=some (q 0))
  (hno:∀(i:Nat) (hi:i<n),¬G i hi->∃e,e≠0/\K i=some (q e)) (hyes:∀(i:Nat) (hi:i<n) (y:β),G i hi->K ((i:Int)+1)=some y->K i=some y):∃e,K 0=some (q e)/\(e=0↔∀j hj,G j hj):=by
 rcases zoQ n G K (λx=>∃e,e≠0/\x=q e) (q 0) (λ_=>h0) (λi hi _ h=>by grind) hyes with⟨h1,h2⟩|⟨⟨j,hj,h1⟩,y,⟨e,h2,rfl⟩,h3⟩
 ·simp_all
 grind
theorem all_from(s n:Nat)(hs:s<=n)(G:∀j,s<=j->j<n->Prop)(K:Int->Option β)(q:Bool->β)(h0:K n=some (q true))
  (hno:∀(i:Nat) (hs:s<=i) (hi:i<n),¬G i hs hi->K i=some (q false)) (hyes:∀(i:Nat) (hs:s<=i) (hi:i<n) (y:β),G i hs hi->K ((i:Int)+1)=some y->K i=some y):K s=some (q (dec (∀j hs hj,G j hs hj))):=by
 have h:=zmx (n-s) (λj hj=>G (s+j) (by omega) (by omega)) (λi=>K (s+i)) q (by grind)
  (λi hi hg=>by grind)
  (λi hi y hg hk=>by grind)
 rw[Int.add_zero]at h;rw[h];congr 2;refine zhE ⟨λh j h1 h2=>?_,λh j hj=>h (s+j) (by omega) (by omega)⟩;have:=h (j-s) (by omega)
 simp_all
theorem zr6{l:List α}{G:α->Prop}:(∀j (hj:j<l.length),G l[j])↔∀x∈l,G x:=by
 constructor
 ·intro h x hx;obtain⟨j,hj,rfl⟩:=zbz.1 hx;exact h j hj
 simp_all
theorem zfo{i:Nat}(h:0<i):((i:Int)-1).toNat=i-1:=by omega
theorem zr7{f:α->Int}{l:List α}:(∀i (hi:i<l.length),∀h:0<i,f (l[i-1]'(by omega))<f l[i])↔AscBy f l:=by
 constructor
 · intro h j hj
   grind
 · intro h i hi h0;have:=h (i-1) (by omega)
   grind
theorem asc_lt{f:α->Int}{l:List α}(h:AscBy f l):∀(i j:Nat) (hj:j<l.length) (hij:i<j),f (l[i]'(by omega))<f l[j]:=by
 intro i j hj hij;obtain⟨d,rfl⟩:∃d,j=i+1+d:=⟨j-i-1,by omega⟩
 induction d with
 |zero=>exact h i hj
 |succ d ih =>
   have h1:=ih (by omega) (by omega);have h2:=h (i+1+d) (by omega)
   grind
theorem zBl{f:α->Int}{l:List α}(h:AscBy f l){i j:Nat}(hi:i<l.length)(hj:j<l.length)(e:f l[i]=f l[j]):i=j:=by
 rcases zho i j with q|q|q
 ·have:=asc_lt h i j hj q;omega
 ·exact q
 ·have:=asc_lt h j i hi q;omega
theorem fnd_some{p:α->Bool}:∀{l:List α} {i j:Nat} {x:α},fnd p i l=some (j,x)->i<=j/\l[j-i]?=some x/\p x=true/\∀k y,k<j-i->l[k]?=some y->p y=false
 |[],i,j,x,h=>by simp[fnd]at h
 |a::l,i,j,x,h=>by
   simp only[fnd]at h;split at h
   ·simp_all
   · rename_i ha;obtain⟨h1,h2,h3,h4⟩:=fnd_some h
     grind
theorem fnd_at{p:α->Bool}{l:List α}{j:Nat}{x:α}(h:fnd p 0 l=some (j,x)):l[j]?=some x/\p x=true/\∀k y,k<j->l[k]?=some y->p y=false:=by have:=(fnd_some h).2;simpa using this
theorem zsn{p:α->Bool}:∀{l:List α} {i:Nat},fnd p i l=none↔∀x∈l,p x=false
 |[],i=>by simp[fnd]
 |a::l,i=>by
   simp only[fnd];split
   ·simp_all
   · rename_i ha;rw[zsn]
     simp_all
theorem fnd_of{p:α->Bool}{l:List α}{j:Nat}{x:α}(hx:l[j]?=some x)(hp:p x=true)(hk:∀k y,k<j->l[k]?=some y->p y=false):fnd p 0 l=some (j,x):=by
 cases h:fnd p 0 l with
 |none =>
   have:=zsn.1 h x (zaq hx)
   simp_all
 |some q =>
   obtain⟨i,y⟩:=q;obtain⟨h1,h2,h3⟩:=fnd_at h
   grind
theorem zh6(l:List α)(p:α->Bool)(K:Int->Option β)(R:Option (Nat×α)->β)(h0:K l.length=some (R none))
  (hyes:∀(i:Nat) (hi:i<l.length),p l[i]=true->K i=some (R (some (i,l[i])))) (hno:∀(i:Nat) (hi:i<l.length) (y:β),p l[i]=false->K ((i:Int)+1)=some y->K i=some y):K 0=some (R (fnd p 0 l)):=by
 have H:=zoQ l.length (λj hj=>p l[j]=false) K (λy=>∃i x,fnd p 0 l=some (i,x)/\y=R (some (i,x))) (R none) (λ_=>h0)
  (λi hi hpre hn=>⟨_,⟨i,l[i],fnd_of (zaa hi) (by simpa using hn) (λk y hk hy=>by grind),rfl⟩,hyes i hi (by simpa using hn)⟩) hno
 rcases H with⟨h1,h2⟩|⟨_,y,⟨i,x,h2,rfl⟩,h3⟩
 ·rw[h2,zsn.2 ((zr6 (G:=λx=>p x=false)).1 h1)]
 ·rw[h3,h2]
def mkN(n:Nat)(f:Nat->α)(d:α)(i:Nat):List α:=(List.range n).map λj=>if j<i then f j else d
theorem zud(n:Nat)(f:Nat->α)(d:α)(i:Nat):(mkN n f d i).length=n:=by simp[mkN]
theorem zBq{n:Nat}{f:Nat->α}{d:α}{i:Nat}(h:i<n):(mkN n f d i)[i]?=some d:=by simp[mkN,h]
theorem mkN_zero(n:Nat)(f:Nat->α)(d:α):mkN n f d 0=List.replicate n d:=by unfold mkN;simp only[Nat.not_lt_zero,if_false,List.map_const',zdZ]
theorem zxo{n:Nat}{f:Nat->α}{d:α}{i:Nat}{v:α}(hv:v=f i):(mkN n f d i).set i v=mkN n f d (i+1):=by
 subst hv;apply zcI;intro j;by_cases hj:j<n
 · by_cases e:i=j
   ·subst e;rw[zeq (by rw[zud];exact hj)];simp[mkN,hj]
   · rw[zdy e];simp only[mkN,zbC,List.getElem?_range hj,zbg]
     grind
 ·rw[zgX (by rw[zeR,zud];omega),zgX (by rw[zud];omega)]
theorem mkN_same{n:Nat}{f:Nat->α}{d:α}{i:Nat}(h:f i=d):mkN n f d i=mkN n f d (i+1):=by
 unfold mkN
 grind
theorem mkN_all(n:Nat)(f:Nat->α)(d:α):mkN n f d n=(List.range n).map f:=by
 unfold mkN
 simp_all
theorem zgE{γ:Type}(f:α->γ)(l:List α)(i:Nat)(a:α):(List.map f l).set i (f a)=List.map f (l.set i a):=List.map_set.symm
theorem zd3{γ:Type}(f:α->γ)(l:List α)(a:α):List.map f l++[f a]=List.map f (l++[a]):=by simp
theorem zxn{γ:Type}(f:α->γ)(n:Nat)(a:α):List.replicate n (f a)=List.map f (List.replicate n a):=by simp
theorem take_len(l:List α):List.take l.length l=l:=zdm
instance(p:GPart):Decidable (OkPart p):=by unfold OkPart;infer_instance
theorem zuJ(p:GPart):cw zp9 [.agg (za0 p)] []=some (zap (dec (OkPart p))):=by
 refine zDo ?_;simp only[zeL,decide_eq_true_eq,beq_iff_eq]
 repeat' split
 all_goals first
  |(rw[zbB (by unfold OkPart;omega)];rfl)
  |(rw[show(p.Key==0)=dec (OkPart p)from zfG (by simp only[beq_iff_eq];unfold OkPart;omega)];rfl)
  |(rw[show decide (p.Key<p.Options)=dec (OkPart p)from zfG (by simp only[decide_eq_true_eq];unfold OkPart;omega)];rfl)
theorem ztO(p:GPart):cw zpp [.agg (za0 p)] []=some (zap (dec (OkPart p))):=by
 refine zB3 ?_;simp only[zeL,decide_eq_true_eq,beq_iff_eq]
 repeat' split
 all_goals first
  |(rw[zbB (by unfold OkPart;omega)];rfl)
  |(rw[show(p.Key==0)=dec (OkPart p)from zfG (by simp only[beq_iff_eq];unfold OkPart;omega)];rfl)
  |(rw[show decide (p.Key<p.Options)=dec (OkPart p)from zfG (by simp only[decide_eq_true_eq];unfold OkPart;omega)];rfl)
theorem zwL(p:GPart)(l:List GPart):sumMax (p::l)=p.Max+sumMax l:=by simp[sumMax]
theorem zA8{l:List GPart}(h:∀p∈l,OkPart p):0<=sumMax l/\sumMax l<=40*l.length:=by
 induction l with
 |nil=>simp[sumMax]
 |cons p l ih=>have h1:=ih (λq hq=>h q (by simp[hq]));have h2:=(h p (by simp)).1;rw[zwL,zcP];omega
theorem zEE(l:List GPart)(h:∀p∈l,OkPart p)(hl:l.length<=24):cw zrc [.sl 6 (mB l)] []=some (zbm (sumMax l)):=by
 refine zEV ?_;have hb:=zA8 h;refine zcl l (λi r=>∀s:Int,0<=s->0<=sumMax r->s+sumMax r=sumMax l->zlR l s i=some (zbm (sumMax l))) ?_ ?_ 0 (by omega) (by omega) (by omega)
 ·intro s _ _ hs;refine ztY ?_;simp(disch:=omega) [zaN];rw[<-hs];simp[sumMax];rfl
 · intro i hi r hr ih s h0 h1 hs;refine ztY ?_;have hm:=(h l[i] (zar hi)).1;rw[zwL]at hs h1;have hr0:0<=sumMax r:=(zA8 (l:=r) (λq hq=>h q (by grind))).1;simp(disch:=omega) [zaB,zao,w64_id]
   grind
theorem zBP(p:zaM):cw zpm [.agg (zaQ p)] []=some (zap (dec (zij p))):=by
 refine zBW ?_;by_cases hh:((0<=p.Code/\p.Code<=31)/\(0<=p.Variant/\p.Variant<4)/\(1<=p.Parts.length/\p.Parts.length<=24))
 · simp(disch:=omega)only[zad,zaN]
   have hg:=λz h0=>zoQ p.Parts.length (λj hj=>OkPart p.Parts[j]) (λi=>zks p i) (λy=>y=zap false) z h0
    (λi hi _ hn=>⟨_,rfl,znL (by simp(disch:=omega) [zaB,zao,zuJ,zbB hn];rfl)⟩)
    (λi hi y hy hk=>znL (by simp(disch:=omega) [zaB,zao,w64_id,zuJ,zbj hy,hk]))
   rcases hg (zap (dec (zij p))) (λh=>znL (by
    have h':=zr6.1 h;simp(disch:=omega) [zaN,zEE p.Parts h' (by omega)];rw[show decide (sumMax p.Parts<=200)=dec (zij p)from zfG (by simp only[decide_eq_true_eq];unfold zij;simp_all)]
    rfl))with⟨h1,h2⟩|⟨⟨j,hj,h1⟩,y,rfl,h3⟩
   ·exact h2
   ·rw[zbB (λh=>h1 (h.2.2.2.1 _ (zar hj)))];exact h3
 · rw[zbB (λh=>hh ⟨h.1,h.2.1,h.2.2.1⟩)];simp only[zeL,decide_eq_true_eq,zad]
   repeat' split
   all_goals first
    |rfl
    |omega
theorem zAk(p:zaM):cw zoo [.agg (zaQ p)] []=some (zap (dec (zij p))):=by
 refine zAI ?_;by_cases hh:((0<=p.Code/\p.Code<=31)/\(0<=p.Variant/\p.Variant<4)/\(1<=p.Parts.length/\p.Parts.length<=24))
 · simp(disch:=omega)only[zad,zaN];have key:=zcl p.Parts (λi r=>∀s:Int,0<=s->s<=40*i->(zij p↔(∀x∈r,OkPart x)/\s+sumMax r<=200)->zjV p s i=some (zap (dec (zij p)))) ?_ ?_ 0 (by omega) (by omega) ?_
   ·exact key
   ·intro s h0 h1 hs;refine zrJ ?_;simp(disch:=omega)only[zad,zaN];rw[show decide (s<=200)=dec (zij p)from zfG (by rw[hs];simp[sumMax])];rfl
   · intro i hi r hr ih s h0 h1 hs;refine zrJ ?_;by_cases hp:OkPart p.Parts[i]
     · have hm:=hp.1;simp(disch:=omega) [zaB,zao,w64_id,ztO,zbj hp];refine ih _ (by omega) (by omega) (hs.trans ?_);rw[zwL]
       grind
     ·simp(disch:=omega) [zaB,zao,ztO,zbB hp];rw[zbB (λh=>hp ((hs.1 h).1 _ (by simp)))];rfl
   · unfold zij
     simp_all
 · rw[zbB (λh=>hh ⟨h.1,h.2.1,h.2.2.1⟩)];simp only[zeL,decide_eq_true_eq,zad]
   repeat' split
   all_goals first
    |rfl
    |omega
theorem zKd{ks:List Int}:OkKeys 0 ks↔ks=[]:=by
 constructor
 · intro h
   cases ks with
   |nil=>rfl
   |cons k ks=>have:=h.1 k (by simp);omega
 ·rintro rfl;exact⟨by simp,λj hj=>by simp at hj⟩
theorem zyC{o:Int}{ks:List Int}:(∀j (hj:j<ks.length),(0<=ks[j]/\ks[j]<o)/\∀h:0<j,(ks[j-1]'(by omega))<ks[j])↔OkKeys o ks:=by
 unfold OkKeys;rw[<-zr7,<-zr6]
 grind
theorem zoe(p:GPart)(ks:List Int)(hp:OkPart p)(hl:ks.length<=1000000):cw zos [.agg (za0 p),.sl 1 (List.map zai ks)] []=some (zap (dec (OkKeys p.Options ks))):=by
 refine zAM ?_;by_cases hk:p.Kind=1
 · have ho:p.Options=0:=by unfold OkPart at hp;omega
   simp only[hk,beq_self_eq_true,zaV,zad];rw[show((ks.length:Int)==0)=dec (OkKeys p.Options ks)from zfG (by rw[ho,zKd];simp)];rfl
 · simp only[show(p.Kind==1)=false by simpa using hk,zaz];rw[<-zhE zyC];refine zmx ks.length _ (λi=>zib p ks i) (λb=>zap b) ?_ ?_ ?_
   ·exact zm9 (by simp(disch:=omega)only[zad,zaN];rfl)
   · intro i hi hg;refine zm9 ?_;by_cases h1:0<=ks[i]/\ks[i]<p.Options
     · have h0:0<i:=by
        apply ze4
        rintro rfl
        exact hg ⟨h1,λh=>absurd h (by omega)⟩
       have h2:¬(ks[i-1]<ks[i]):=λh=>hg ⟨h1,λ_=>h⟩
       simp(disch:=omega) [zaB,zaN,zao,w64_id,zfo h0];rfl
     · by_cases h2:ks[i]<0
       ·simp(disch:=omega) [zaB,zao];rfl
       ·simp(disch:=omega) [zaB,zaN,zao];rfl
   · intro i hi y hg hk';refine zm9 ?_;by_cases h0:0<i
     ·have h2:=hg.2 h0;have h1:=hg.1;simp(disch:=omega) [zaB,zaN,zao,w64_id,zfo h0,hk']
     ·have h1:=hg.1;simp(disch:=omega) [zaB,zaN,zao,w64_id,hk']
theorem zvF(k:Int):cw zrp [I k] []=some (zap (dec (0<=k/\k<=2))):=by
 refine zE7 ?_;simp only[zeL,beq_iff_eq]
 repeat' split
 all_goals first
  |(rw[zbj (by omega)];rfl)
  |(rw[zbB (by omega)];rfl)
theorem zA1{p:zaM}{s:zbu}(h1:s.Keys.length=p.Parts.length)(h2:s.Withdrawn.length=p.Parts.length)(hp:zij p):(∀j (hj:j<p.Parts.length),OkKeys p.Parts[j].Options (s.Keys[j]'(by omega))/\(0<=s.Withdrawn[j]'(by omega)/\s.Withdrawn[j]'(by omega)<=2))↔ze8 p s:=by
 unfold ze8;constructor
 ·grind
 ·intro h j hj;exact h.2.2.2 j _ _ _ (zaa hj) (zaa (by omega)) (zaa (by omega))
theorem ziH(p:zaM)(s:zbu)(hs:Short s):cw ziP [.agg (zaQ p),.agg (zbL s)] []=some (zap (dec (ze8 p s))):=by
 refine zGl ?_;simp only[zBP,zKA,zad];by_cases hp:zij p
 · by_cases h1:s.Keys.length=p.Parts.length
   · by_cases h2:s.Withdrawn.length=p.Parts.length
     · simp only[zbj hp,h1,h2,zaF,zaz,bne_self_eq_false];have hpl:=hp.2.2.1;rw[<-zhE (zA1 h1 h2 hp)];refine zmx p.Parts.length _ (λi=>zmS p s i) (λb=>zap b) ?_ ?_ ?_
       ·exact zqn (by simp(disch:=omega)only[zad,zaN];rfl)
       · intro i hi hg;have hi1:i<s.Keys.length:=by omega
         have hi2:i<s.Withdrawn.length:=by omega
         refine zqn ?_;have hx:=hp.2.2.2.1 _ (zar hi);by_cases h3:OkKeys p.Parts[i].Options s.Keys[i]
         · have h4:¬(0<=s.Withdrawn[i]/\s.Withdrawn[i]<=2):=λh=>hg ⟨h3,h⟩
           simp(disch:=omega) [zaB,zao,zoe _ _ hx (hs _ (zar hi1)),zbj h3,zvF,zbB h4];rfl
         ·simp(disch:=omega) [zaB,zao,zoe _ _ hx (hs _ (zar hi1)),zbB h3];rfl
       · intro i hi y hg hk';have hi1:i<s.Keys.length:=by omega
         have hi2:i<s.Withdrawn.length:=by omega
         refine zqn ?_;have hx:=hp.2.2.2.1 _ (zar hi);simp(disch:=omega) [zaB,zao,w64_id,zoe _ _ hx (hs _ (zar hi1)),zbj hg.1,zvF,zbj hg.2,hk']
     ·rw[zbB (p:=ze8 p s) (λh=>h2 h.2.2.1)];simp only[zbj hp,h1,zaF,zaz,bne_self_eq_false,show((s.Withdrawn.length:Int) !=p.Parts.length)=true by grind,zaV];rfl
   ·rw[zbB (p:=ze8 p s) (λh=>h1 h.2.1)];simp only[zbj hp,zaF,zaz,show((s.Keys.length:Int) !=p.Parts.length)=true by grind,zaV];rfl
 ·rw[zbB hp,zbB (λh=>hp h.1)];rfl
theorem zjA(p:zaM)(s:zbu)(hs:Short s):cw zkG [.agg (zaQ p),.agg (zbL s)] []=some (zap (dec (ze8 p s))):=by
 refine zHN ?_;simp only[zAk,zKA,zad];by_cases hp:zij p
 · by_cases h1:s.Keys.length=p.Parts.length
   · by_cases h2:s.Withdrawn.length=p.Parts.length
     · simp only[zbj hp,h1,h2,zaF,zaz,bne_self_eq_false];have hpl:=hp.2.2.1;rw[<-zhE (zA1 h1 h2 hp)]
       have inner:∀(i:Nat) (hi:i<p.Parts.length) (y:AV×Mem),zk5 p s ((i:Int)+1)=some y->(OkKeys p.Parts[i].Options (s.Keys[i]'(by omega))->zgq p s i 0=some y):=by
        intro i hi y hk hg;have hi1:i<s.Keys.length:=by omega
        have hlk:=hs _ (zar hi1);have hg':=zyC.2 hg;refine zcl s.Keys[i] (λj r=>zgq p s i j=some y) ?_ ?_
        ·refine zn5 ?_;simp(disch:=omega) [zaN,zao,w64_id,hk]
        · intro j hj r hr ih;refine zn5 ?_;obtain⟨g1,g2⟩:=hg' j hj;by_cases h0:0<j
          ·have g3:=g2 h0;simp(disch:=omega) [zaB,zaN,zao,w64_id,zfo h0,ih]
          ·simp(disch:=omega) [zaB,zaN,zao,w64_id,ih]
       have innerNo:∀(i:Nat) (hi:i<p.Parts.length),¬OkKeys p.Parts[i].Options (s.Keys[i]'(by omega))->zgq p s i 0=some (zap false):=by
        intro i hi hg;have hi1:i<s.Keys.length:=by omega
        have hlk:=hs _ (zar hi1);rw[<-zyC]at hg
        have hno:∀j (hj:j<s.Keys[i].length),¬((0<=s.Keys[i][j]/\s.Keys[i][j]<p.Parts[i].Options)/\∀h:0<j,(s.Keys[i][j-1]'(by omega))<s.Keys[i][j])->zgq p s i j=some (zap false):=by
         intro j hj hn;refine zn5 ?_;by_cases g1:0<=s.Keys[i][j]/\s.Keys[i][j]<p.Parts[i].Options
         · have h0:0<j:=by
            apply ze4
            rintro rfl
            exact hn ⟨g1,λh=>absurd h (by omega)⟩
           have g2:¬(s.Keys[i][j-1]<s.Keys[i][j]):=λh=>hn ⟨g1,λ_=>h⟩
           simp(disch:=omega) [zaB,zaN,zao,w64_id,zfo h0];rfl
         · by_cases g2:s.Keys[i][j]<0
           ·simp(disch:=omega) [zaB,zao];rfl
           ·simp(disch:=omega) [zaB,zaN,zao];rfl
        rcases zoQ s.Keys[i].length (λj hj=>(0<=s.Keys[i][j]/\s.Keys[i][j]<p.Parts[i].Options)/\∀h:0<j,(s.Keys[i][j-1]'(by omega))<s.Keys[i][j])
         (λj=>zgq p s i j) (λy=>y=zap false) (zap false) (λh=>absurd h hg) (λj hj _ hn=>⟨_,rfl,hno j hj hn⟩) (λj hj y g hk=>by
          refine zn5 ?_;obtain⟨g1,g2⟩:=g;by_cases h0:0<j
          ·have g3:=g2 h0;simp(disch:=omega) [zaB,zaN,zao,w64_id,zfo h0,hk]
          ·simp(disch:=omega) [zaB,zaN,zao,w64_id,hk])with⟨_,h⟩|⟨_,y,rfl,h⟩
        ·exact h
        ·exact h
       refine zmx p.Parts.length _ (λi=>zk5 p s i) (λb=>zap b) ?_ ?_ ?_
       ·exact zrK (by simp(disch:=omega)only[zad,zaN];rfl)
       · intro i hi hg;have hi2:i<s.Withdrawn.length:=by omega
         refine zrK ?_;by_cases h4:(0<=s.Withdrawn[i]/\s.Withdrawn[i]<=2)
         · have h3:=λh=>hg ⟨h,h4⟩
           simp(disch:=omega) [zaB,zaN,zao,innerNo i hi h3]
         · by_cases h5:s.Withdrawn[i]<0
           ·simp(disch:=omega) [zaB,zao];rfl
           ·simp(disch:=omega) [zaB,zaN,zao];rfl
       · intro i hi y hg hk';have hi2:i<s.Withdrawn.length:=by omega
         have g2:=hg.2;refine zrK ?_;simp(disch:=omega) [zaB,zaN,zao,inner i hi y hk' hg.1]
     ·rw[zbB (p:=ze8 p s) (λh=>h2 h.2.2.1)];simp only[zbj hp,h1,zaF,zaz,bne_self_eq_false,show((s.Withdrawn.length:Int) !=p.Parts.length)=true by grind,zaV];rfl
   ·rw[zbB (p:=ze8 p s) (λh=>h1 h.2.1)];simp only[zbj hp,zaF,zaz,show((s.Keys.length:Int) !=p.Parts.length)=true by grind,zaV];rfl
 ·rw[zbB hp,zbB (λh=>hp h.1)];rfl
theorem zhz(n:Int):cw zmF [I n] []=some (zap (dec (0<=n/\n<=31))):=by
 refine zDu ?_;simp only[zeL,decide_eq_true_eq];split
 ·rw[show decide (n<=31)=dec (0<=n/\n<=31)from zfG (by simp_all)];rfl
 ·rw[zbB (by omega)];rfl
theorem zvG(n:Int):cw zdR [I n] []=some (zap (!dec (0<=n/\n<=31))):=
 zwr (by rw[zhz,zKA];rfl)
theorem zF1(l:List Int)(hl:l.length<=1000000):cw zdb [.sl 1 (List.map zai l),.fn zdR []] []=some (zap (!dec (∀n∈l,0<=n/\n<=31))):=by
 refine zrO ?_
 have key:∃r,cw zdE [.sl 1 (List.map zai l),.fn zdR []] []=some (zbm r)/\(0<=r↔¬∀n∈l,0<=n/\n<=31):=by
  have H:=zoQ l.length (λj hj=>0<=l[j]/\l[j]<=31) (λi=>zgQ l i) (λy=>∃r:Int,0<=r/\y=zbm r) (zbm (-1)) ?_ ?_ ?_
  · rcases H with⟨h1,h2⟩|⟨⟨j,hj,h1⟩,y,⟨r,h2,rfl⟩,h3⟩
    · refine⟨-1,znf h2,?_⟩;have:=(zr6 (G:=λn=>0<=n/\n<=31)).1 h1
      simp_all
    ·exact⟨r,znf h3,λ_ h=>h1 (h _ (zar hj)),λ_=>h2⟩
  ·intro h;exact ziV (by simp(disch:=omega) [zaN]<;>rfl)
  ·intro i hi _ hg;refine⟨_,⟨(i:Int),by omega,rfl⟩,ziV ?_⟩;simp(disch:=omega) [zaB,zao,zvG,zbB hg];rfl
  ·intro i hi y hg hk;refine ziV ?_;simp(disch:=omega) [zaB,zao,w64_id,zvG,zbj hg,hk]
 obtain⟨r,h1,h2⟩:=key;rw[h1,za7]
 rw[show decide (0<=r)=!dec (∀n∈l,0<=n/\n<=31)by
  by_cases hc:∀n∈l,0<=n/\n<=31
  ·rw[zbj hc];simp_all
  ·rw[zbB hc];simp_all]
 rfl
theorem znd(m:za3)(hl:m.Papers.length<=1000000):cw zmG [.agg (zbb m)] []=some (zap (dec (zmt m))):=by
 refine zyj ?_;simp only[zeL,decide_eq_true_eq]
 repeat' split
 all_goals first
  |(rw[zbB (by unfold zmt;omega)];rfl)
  |(rw[zF1 _ hl,zKA,Bool.not_not,zhE (p:=∀n∈m.Papers,0<=n/\n<=31) (q:=zmt m) ⟨λh=>⟨by omega,by omega,by omega,by omega,h⟩,λh=>h.2.2.2.2⟩];rfl)
theorem znP(l:List Int)(hl:l.length<=1000000):cw zrf [.sl 1 (List.map zai l)] []=some (zap (dec (AscBy id l))):=by
 refine zEW ?_;by_cases h1:1<=l.length
 · have h:=all_from 1 l.length h1 (λj h1 hj=>l[j-1]<l[j]) (λi=>zlS l i) (λb=>zap b) ?_ ?_ ?_
   ·rw[show((1:Nat):Int)=1 from rfl]at h;rw[h];congr 2;rw[<-zr7];exact zhE ⟨λh i hi h0=>h i h0 hi,λh j h1 hj=>h j hj h1⟩
   ·exact zlY (by simp(disch:=omega) [zaN]<;>rfl)
   ·intro i h0 hi hg;refine zlY ?_;simp(disch:=omega) [zaB,zao,w64_id,zfo h0];rfl
   ·intro i h0 hi y hg hk;refine zlY ?_;simp(disch:=omega) [zaB,zaN,zao,w64_id,zfo h0,hk]
 ·rw[zbj (p:=AscBy id l) (λj hj=>by omega)];exact zlY (by simp(disch:=omega) [zaN]<;>rfl)
theorem zH2{l:List za3}(hl:l.length<=16):(∀j (hj:j<l.length),(zmt l[j]/\AscBy id l[j].Papers)/\∀h:0<j,(l[j-1]'(by omega)).ID<l[j].ID)↔zqp l:=by
 unfold zqp;rw[<-zr7,<-zr6]
 grind
theorem zF3(l:List za3)(hs:∀m∈l,m.Papers.length<=1000000):∃e,cw zsh [.sl 5 (mH l)] []=some (zbm e)/\(e=0↔zqp l):=by
 by_cases hl:l.length<=16
 · have H:=all_err l.length (λj hj=>(zmt l[j]/\AscBy id l[j].Papers)/\∀h:0<j,(l[j-1]'(by omega)).ID<l[j].ID) (λi=>zkf l i) (λe=>zbm e) ?_ ?_ ?_
   ·obtain⟨e,h1,h2⟩:=H;exact⟨e,zxd (by simp(disch:=omega) [zaN,h1]),h2.trans (zH2 hl)⟩
   ·exact zkm (by simp(disch:=omega) [zaN]<;>rfl)
   · intro i hi hg;have hp:=hs _ (zar hi);by_cases h1:zmt l[i]
     · by_cases h2:AscBy id l[i].Papers
       · have h0:0<i:=by
          apply ze4
          rintro rfl
          exact hg ⟨⟨h1,h2⟩,λh=>absurd h (by omega)⟩
         have h3:¬(l[i-1].ID<l[i].ID):=λh=>hg ⟨⟨h1,h2⟩,λ_=>h⟩
         refine⟨43,by omega,zkm ?_⟩;simp(disch:=omega) [zaB,zao,w64_id,zfo h0,znd _ hp,zbj h1,znP _ hp,zbj h2];rfl
       ·refine⟨43,by omega,zkm ?_⟩;simp(disch:=omega) [zaB,zao,znd _ hp,zbj h1,znP _ hp,zbB h2];rfl
     ·refine⟨2,by omega,zkm ?_⟩;simp(disch:=omega) [zaB,zao,znd _ hp,zbB h1];rfl
   · intro i hi y hg hk;have hp:=hs _ (zar hi);obtain⟨⟨h1,h2⟩,h3⟩:=hg;refine zkm ?_;by_cases h0:0<i
     ·have h4:=h3 h0;simp(disch:=omega) [zaB,zaN,zao,w64_id,zfo h0,znd _ hp,zbj h1,znP _ hp,zbj h2,hk]
     ·simp(disch:=omega) [zaB,zaN,zao,w64_id,znd _ hp,zbj h1,znP _ hp,zbj h2,hk]
 ·refine⟨3,zxd ?_,by omega,λh=>absurd h.1 hl⟩;simp(disch:=omega) [zaB];rfl
theorem zza{l:List zaT}(hl:l.length<=60):(∀j (hj:j<l.length),zmu l[j]/\∀h:0<j,(l[j-1]'(by omega)).Number<l[j].Number)↔zkM l:=by
 unfold zkM;rw[<-zr7,<-zr6]
 grind
theorem zw7(l:List zaT):∃e,cw zl5 [.sl 7 (mI l)] []=some (zbm e)/\(e=0↔zkM l):=by
 by_cases hl:l.length<=60
 · have H:=all_err l.length (λj hj=>zmu l[j]/\∀h:0<j,(l[j-1]'(by omega)).Number<l[j].Number) (λi=>zgV l i) (λe=>zbm e) ?_ ?_ ?_
   ·obtain⟨e,h1,h2⟩:=H;exact⟨e,zqB (by simp(disch:=omega) [zaN,h1]),h2.trans (zza hl)⟩
   ·exact zfY (by simp(disch:=omega) [zaN]<;>rfl)
   · intro i hi hg;by_cases h1:zmu l[i]
     · have h0:0<i:=by
        apply ze4
        rintro rfl
        exact hg ⟨h1,λh=>absurd h (by omega)⟩
       have h3:¬(l[i-1].Number<l[i].Number):=λh=>hg ⟨h1,λ_=>h⟩
       refine⟨43,by omega,zfY ?_⟩;obtain⟨a1,a2,a3,a4,a5,a6⟩:=h1;simp(disch:=omega) [zaB,zaN,zao,w64_id,zfo h0,zhz,zbj a1];rw[<-a5];simp;rfl
     · by_cases a1:0<=l[i].Paper/\l[i].Paper<=31
       · by_cases a2:(0<=l[i].Candidate/\l[i].Candidate<=9999)/\(0<=l[i].Centre/\l[i].Centre<=99)/\(0<=l[i].Variant/\l[i].Variant<=31)
         · refine⟨1,by omega,zfY ?_⟩;simp(disch:=omega) [zaB,zaN,zao,w64_id,zhz,zbj a1];by_cases a3:l[i].Number=l[i].Paper*10000+l[i].Candidate
           · have a4:12<(l[i].Pages.length:Int):=by apply Int.not_le.1;intro h;exact h1 ⟨a1,a2.1,a2.2.1,a2.2.2,a3,by omega⟩
             simp(disch:=omega) [a3,zaB];rfl
           ·simp[show(l[i].Number !=l[i].Paper*10000+l[i].Candidate)=true by simpa using a3];rfl
         · refine⟨2,by omega,zfY ?_⟩;simp(disch:=omega) [zaB,zao,zhz,zbj a1];simp only[zeL,decide_eq_true_eq]
           repeat' split
           all_goals first
            |rfl
            |omega
       ·refine⟨2,by omega,zfY ?_⟩;simp(disch:=omega) [zaB,zao,zhz,zbB a1];rfl
   · intro i hi y hg hk;obtain⟨h1,h3⟩:=hg;refine zfY ?_;obtain⟨a1,a2,a3,a4,a5,a6⟩:=h1;by_cases h0:0<i
     ·have h4:=h3 h0;simp(disch:=omega) [zaB,zaN,zao,w64_id,zfo h0,zhz,zbj a1,<-a5,hk]
     ·simp(disch:=omega) [zaB,zaN,zao,w64_id,zhz,zbj a1,<-a5,hk]
 ·refine⟨3,zqB ?_,by omega,λh=>absurd h.1 hl⟩;simp(disch:=omega) [zaB];rfl
theorem c_isScore(n:Int):cw zlP [I n] []=some (zap (dec (0<=n/\n<=200))):=by
 refine zB2 ?_;simp only[zeL,decide_eq_true_eq];split
 ·rw[show decide (n<=200)=dec (0<=n/\n<=200)from zfG (by simp_all)];rfl
 ·rw[zbB (by omega)];rfl
theorem zqZ(r:zbv)(h:OkMon r):cw zkS [.agg (zbQ r)] []=some (zbm 0):=by obtain⟨h1,h2,h3,h4⟩:=h;refine zE1 ?_;simp(disch:=omega) [zaN,c_isScore,zbj h1,zbj h2];rfl
theorem zEC(l:List Int)(n:Int)(hl:l.length<=1000000):cw zhR [.sl 1 (List.map zai l),I n] []=some (zap (dec (n∈l))):=by
 refine zt6 ?_;have key:=zh6 l (λx=>n==x) (λi=>zid l n i) (λo=>zbm (match o with|some (i,_)=>(i:Int)|none=>-1)) ?_ ?_ ?_
 · rw[zww key,za7]
   cases hf:fnd (λx=>n==x) 0 l with
   |none=>rw[zbB (λh=>by have:=zsn.1 hf n h;simp at this)];rfl
   |some q =>
     obtain⟨i,x⟩:=q;obtain⟨h1,h2,_⟩:=fnd_at hf;have:n=x:=by simpa using h2
     subst this;rw[zbj (zaq h1)];show some (B (decide (0<=(i:Int))),[])=_;rw[show decide (0<=(i:Int))=true by simp];rfl
 ·exact zko (by simp(disch:=omega) [zaN]<;>rfl)
 ·intro i hi h;refine zko ?_;simp(disch:=omega) [zaB,zao,h];rfl
 ·intro i hi y h hk;refine zko ?_;simp(disch:=omega) [zaB,zao,w64_id,h,hk]
theorem zAh(x:GPart)(ks:List Int)(v:Int)(hl:ks.length<=1000000):cw zqg [.agg (za0 x),.sl 1 (List.map zai ks),I v] []=some (zap (accB x ks v)):=by
 refine zDB ?_;unfold accB;by_cases h:ks=[]
 ·rw[if_pos h,h];rfl
 · rw[if_neg h];have:((ks.length:Int)==0)=false:=by simpa using h
   simp only[zad,this,zaz,zEC _ _ hl,zKA];rfl
theorem kind2{x:GPart}(h:OkPart x):x.Kind=1\/x.Kind=2:=by unfold OkPart at h;omega
theorem zvE(p:zaM)(s:zbu)(a:List Int)(hs:Short s):∃r:List Int×Int,cw zkW [.agg (zaQ p),.agg (zbL s),.sl 1 (List.map zai a)] []=some (zdc r)/\(r.2=0↔ze8 p s/\OkAns p a)/\(r.2=0->r.1=zjo p s a):=by
 by_cases hp:ze8 p s
 case neg=>refine⟨([],1),zq6 ?_,by simp[hp],by simp⟩;simp only[ziH p s hs,zKA,zbB hp];rfl
 obtain⟨hP,hk,hw,hall⟩:=id hp;have hpl:=hP.2.2.1;by_cases ha:a.length=p.Parts.length
 case neg=>refine⟨([],22),zq6 ?_,by simp[OkAns,ha],by simp⟩;simp only[ziH p s hs,zKA,zbj hp,zaF,zaz,zad,show((a.length:Int) !=p.Parts.length)=true by grind,zaV];rfl
 have start:∀y,zgh p s a 0=some y->cw zkW [.agg (zaQ p),.agg (zbL s),.sl 1 (List.map zai a)] []=some y:=by intro y hy;refine zq6 ?_;simp only[ziH p s hs,zKA,zbj hp,zaF,zaz,zad,ha,bne_self_eq_false,hy]
 have second:zgi p s a (List.map zai (List.replicate p.Parts.length 0)) 0=some (zdc (zjo p s a,0)):=by
  rw[<-mkN_zero p.Parts.length (zen p s a) 0];have:=zcl p.Parts (λi r=>zgi p s a (List.map zai (mkN p.Parts.length (zen p s a) 0 i.toNat)) i=some (zdc (zjo p s a,0))) ?_ ?_
  ·exact this
  ·refine zt1 ?_;simp(disch:=omega)only[zad,zaN,zah,mkN_all,zcf,zdZ,zao,zdm,zjo.eq_1];rw[show List.take p.Parts.length (List.map zai (List.map (zen p s a) (List.range p.Parts.length)))=List.map zai (List.map (zen p s a) (List.range p.Parts.length))from zaJ (by simp)];rfl
  · intro i hi r hr ih;have hi1:i<s.Keys.length:=by omega
    have hi2:i<a.length:=by omega
    have hkl:=hs _ (zar hi1);refine zt1 ?_
    have hc:zen p s a i=if p.Parts[i].Kind=1 then -2 else if accB p.Parts[i] s.Keys[i] a[i]=true then p.Parts[i].Max else if a[i]=-1 then -1 else 0:=by simp[zen,hi,hi1,hi2]
    have e1:((i:Int)+1).toNat=i+1:=by omega
    rw[e1]at ih;have hgi:(mkN p.Parts.length (zen p s a) 0 i)[i]?=some 0:=zBq hi;rcases kind2 (hP.2.2.2.1 _ (zar hi))with h1|h1
    ·rw[if_pos h1]at hc;simp(disch:=omega) [zaB,zao,h1,w64_id,hgi,zgE,zxo hc.symm,-List.map_set,ih]
    · rw[iNQ]at hc
      cases hb:accB p.Parts[i] s.Keys[i] a[i]with
      |true=>rw[if_pos hb]at hc;simp(disch:=omega) [zaB,zao,h1,w64_id,hgi,zgE,zxo hc.symm,-List.map_set,ih,zAh _ _ _ hkl,hb]
      |false =>
        rw[if_neg (by rw[hb];simp)]at hc;by_cases h2:a[i]=-1
        ·rw[if_pos h2]at hc;simp(disch:=omega) [zaB,zao,h1,w64_id,hgi,zgE,zxo hc.symm,-List.map_set,ih,zAh _ _ _ hkl,hb,<-h2];simp(disch:=omega) [h2,zgE,zxo hc.symm,-List.map_set,ih]
        ·rw[if_neg h2]at hc;simp(disch:=omega) [zaB,zao,h1,w64_id,mkN_same hc,ih,zAh _ _ _ hkl,hb,show(a[i]==-1)=false by simpa using h2]
 have hfst:∀j (hj:j<p.Parts.length),(p.Parts[j].Kind≠1->-2<=a[j]'(by omega)/\a[j]'(by omega)<p.Parts[j].Options)↔(p.Parts[j].Kind=2->-2<=a[j]'(by omega)/\a[j]'(by omega)<p.Parts[j].Options):=by intro j hj;have:=kind2 (hP.2.2.2.1 _ (zar hj));omega
 have H:=zoQ p.Parts.length (λj hj=>p.Parts[j].Kind≠1->-2<=a[j]'(by omega)/\a[j]'(by omega)<p.Parts[j].Options) (λi=>zgh p s a i) (λy=>y=zdc ([],2)) (zdc (zjo p s a,0)) ?_ ?_ ?_
 · rcases H with⟨h1,h2⟩|⟨⟨j,hj,h1⟩,y,rfl,h3⟩
   · refine⟨_,start _ h2,⟨λ_=>⟨hp,ha,λj x v q1 q2 q3=>?_⟩,λ_=>rfl⟩,λ_=>rfl⟩
     grind
   ·refine⟨_,start _ h3,⟨λh=>by simp at h,λh=>?_⟩,λh=>by simp at h⟩;exact absurd (λq3=>h.2.2 j _ _ (zaa hj) (zaa (by omega)) q3) h1
 ·intro _;refine zps ?_;simp only[<-zxn]at second;simp(disch:=omega)only[zad,zaN,zao,zbx,zah,second]
 · intro i hi _ hn;have hi2:i<a.length:=by omega
   refine⟨_,rfl,zps ?_⟩;rcases kind2 (hP.2.2.2.1 _ (zar hi))with h1|h1
   ·omega
   · have h2:¬(-2<=a[i]/\a[i]<p.Parts[i].Options):=λh=>hn (λ_=>h)
     have hop:2<=p.Parts[i].Options:=by have:=(hP.2.2.2.1 _ (zar hi));unfold OkPart at this;omega
     have h3:a[i]≠-1:=λh=>h2 (by omega)
     have h4:a[i]≠-2:=λh=>h2 (by omega)
     by_cases h5:a[i]<0
     ·simp(disch:=omega) [zaB,zao,h1,show(a[i] !=-1)=true by simpa using h3,show(a[i] !=-2)=true by simpa using h4];rfl
     ·simp(disch:=omega) [zaB,zaN,zao,h1,show(a[i] !=-1)=true by simpa using h3,show(a[i] !=-2)=true by simpa using h4];rfl
 · intro i hi y hg hk';have hi2:i<a.length:=by omega
   refine zps ?_;rcases kind2 (hP.2.2.2.1 _ (zar hi))with h1|h1
   ·simp(disch:=omega) [zaB,zao,h1,w64_id,hk']
   · have h2:=hg (by omega);by_cases h3:a[i]=-1
     ·simp(disch:=omega) [zaB,zao,h1,w64_id,h3,hk']
     · by_cases h4:a[i]=-2
       ·simp(disch:=omega) [zaB,zao,h1,w64_id,h4,hk']
       ·simp(disch:=omega) [zaB,zaN,zao,h1,show(a[i] !=-1)=true by simpa using h3,show(a[i] !=-2)=true by simpa using h4,w64_id,hk']
def zJL:zaT:=⟨0,0,0,0,0,[],[]⟩
def ixR:Option (Nat×zaM)->Int×Bool
 |some (i,_)=>((i:Int),true)
 |none=>(0,false)
def scR:Option zaT->zaT×Bool
 |some x=>(x,true)
 |none=>(zJL,false)
theorem zx8(s:zan)(n:Int)(hl:s.Scripts.length<=1000000):cw zjd [.agg (zas s),I n] []=some (zj8 (scR (zgm s.Scripts n))):=by
 refine zAE ?_;have key:=zh6 s.Scripts (λx=>x.Number==n) (λi=>zjU s n i) (λo=>zj8 (scR (o.map (·.2)))) ?_ ?_ ?_
 ·exact key
 ·exact zm7 (by simp(disch:=omega) [zaN]<;>rfl)
 ·intro i hi h;refine zm7 ?_;simp(disch:=omega) [zaB,zao,h];rfl
 ·intro i hi y h hk;refine zm7 ?_;simp(disch:=omega) [zaB,zao,w64_id,h,hk]
theorem zw8(l:List zaT)(n:Int)(hl:l.length<=1000000):cw zoX [.sl 7 (mI l),I n] []=some (zj8 (scR (zgm l n))):=by
 refine zGi ?_;have key:=zh6 l (λx=>x.Number==n) (λi=>zmP l n i) (λo=>zj8 (scR (o.map (·.2)))) ?_ ?_ ?_
 ·exact key
 ·exact zqm (by simp(disch:=omega) [zaN]<;>rfl)
 ·intro i hi h;refine zqm ?_;simp(disch:=omega) [zaB,zao,h];rfl
 ·intro i hi y h hk;refine zqm ?_;simp(disch:=omega) [zaB,zao,w64_id,h,hk]
theorem zAj(s:zan)(x:zaT)(hl:s.Papers.length<=1000000):cw zjK [.agg (zas s),.agg (za1 x)] []=some (zir (ixR (zfW s.Papers x))):=by
 refine zB0 ?_;have key:=zh6 s.Papers (λp=>p.Code==x.Paper&&p.Variant==x.Variant) (λi=>ziD s x i) (λo=>zir (ixR o)) ?_ ?_ ?_
 ·exact key
 ·exact znN (by simp(disch:=omega) [zaN]<;>rfl)
 ·intro i hi h;refine znN ?_;rw[zaO]at h;simp(disch:=omega) [zaB,zao,h.1,h.2];rfl
 · intro i hi y h hk;refine znN ?_
   cases h1:(s.Papers[i].Code==x.Paper)with
   |false=>simp(disch:=omega) [zaB,zao,w64_id,h1,hk]
   |true=>rw[h1,zcx]at h;simp(disch:=omega) [zaB,zao,w64_id,h1,h,hk]
theorem ztn(ps:List zaM)(x:zaT)(hl:ps.length<=1000000):cw zng [.sl 3 (mJ ps),.agg (za1 x)] []=some (zir (ixR (zfW ps x))):=by
 refine zHP ?_;have key:=zh6 ps (λp=>p.Code==x.Paper&&p.Variant==x.Variant) (λi=>zk8 ps x i) (λo=>zir (ixR o)) ?_ ?_ ?_
 ·exact key
 ·exact zrL (by simp(disch:=omega) [zaN]<;>rfl)
 ·intro i hi h;refine zrL ?_;rw[zaO]at h;simp(disch:=omega) [zaB,zao,h.1,h.2];rfl
 · intro i hi y h hk;refine zrL ?_
   cases h1:(ps[i].Code==x.Paper)with
   |false=>simp(disch:=omega) [zaB,zao,w64_id,h1,hk]
   |true=>rw[h1,zcx]at h;simp(disch:=omega) [zaB,zao,w64_id,h1,h,hk]
theorem zAg(s:zan)(n:Int)(h1:s.Scripts.length<=1000000)(h2:s.Papers.length<=1000000):cw zjJ [.agg (zas s),I n] []=some (zir (ixR (zfX s n))):=by
 refine zBZ ?_;rw[zx8 s n h1,zjb];unfold zfX
 cases zgm s.Scripts n with
 |none=>rfl
 |some x=>simp only[scR,zaF,zaz,zAj s x h2,zg0,zae];rfl
theorem zIV(p:zaM)(m:List Int)(hl:p.Parts.length<=1000000)(h:zlZ p m):cw zmJ [.agg (zaQ p),.sl 1 (List.map zai m)] []=some (zap true):=by
 obtain⟨h1,h2⟩:=h;refine zym ?_;simp only[zad,h1,bne_self_eq_false,zaz];refine zcl p.Parts (λi r=>zi3 p m i=some (zap true)) ?_ ?_
 ·exact zpS (by simp(disch:=omega) [zaN]<;>rfl)
 · intro i hi r hr ih;have hi2:i<m.length:=by omega
   have:=h2 i _ _ (zaa hi) (zaa hi2);refine zpS ?_;simp(disch:=omega) [zaB,zaN,zao,w64_id,ih]
theorem zfl{ps:List zaM}{x:zaT}{k:Nat}{p:zaM}(hk:zfW ps x=some (k,p)):ps[k]?=some p/\p.Code=x.Paper/\p.Variant=x.Variant:=by
 obtain⟨h1,h2,_⟩:=fnd_at hk
 simp_all
theorem zCF{l:List zaT}{n:Int}{x:zaT}(h:zgm l n=some x):x∈l/\x.Number=n:=by
 unfold zgm at h
 cases hf:fnd (λx=>x.Number==n) 0 l with
 |none=>simp[hf]at h
 |some q =>
   obtain⟨i,y⟩:=q;rw[hf]at h;simp only[zbg,zaf]at h;subst h;obtain⟨h1,h2,_⟩:=fnd_at hf
   grind
theorem zoE{l:List zaT}(h:AscBy zaT.Number l){x:zaT}(hx:x∈l):zgm l x.Number=some x:=by
 obtain⟨i,hi,rfl⟩:=zbz.1 hx;unfold zgm
 rw[fnd_of (j:=i) (x:=l[i]) (zaa hi) (by simp) (λk y hk hy=>by
  obtain⟨hk',rfl⟩:=zam.1 hy;have:=asc_lt h k i hi hk
  grind)]
 rfl
theorem zuf{s:zan}{n:Int}{k:Nat}{p:zaM}(hk:zfX s n=some (k,p)):s.Papers[k]?=some p:=by
 unfold zfX at hk
 cases hx:zgm s.Scripts n with
 |none=>simp[hx]at hk
 |some x=>rw[hx]at hk;exact(zfl hk).1
section
variable{s:zan}(h:zb3 s)
include h
theorem zb3.okPaper{k:Nat}{p:zaM}(hk:s.Papers[k]?=some p):zij p:=by have hlt:=(zam.1 hk).1;have:=h.len;exact(h.schemes k p _ hk (zaa (by omega))).1
theorem zHF:cw zl6 [.agg (zas s)] []=some (zap true):=by
 have hp:=h.papers;have hl:=h.len;refine zxe ?_;simp(disch:=omega)only[zad,zaN,hl,bne_self_eq_false,zaz];refine zcl s.Papers (λi r=>ziv s i=some (zap true)) ?_ ?_
 ·exact zpi (by simp(disch:=omega) [zaN]<;>rfl)
 · intro i hi r hr ih;have hi2:i<s.Schemes.length:=by omega
   have hv:=h.schemes i _ _ (zaa hi) (zaa hi2);refine zpi ?_;simp(disch:=omega) [zaB,zao,w64_id,ziH _ _ (h.short _ (zar hi2)),zbj hv,ih]
theorem zF7:cw zlx [.agg (zas s)] []=some (zap true):=by
 have hp:=h.papers;have hl:=h.len;have hsl:=h.scripts.1;refine zwu ?_;refine zcl s.Scripts (λi r=>zia s i=some (zap true)) ?_ ?_
 ·exact zoL (by simp(disch:=omega) [zaN]<;>rfl)
 ·intro i hi r hr ih;obtain⟨k,p,c,q1,q2,q3⟩:=h.script _ (zar hi);have hpk:=(zfl q1).1;obtain⟨w,hw,hw1,hw2⟩:=zvE p c s.Scripts[i].Answers (h.short _ (zaq q2));have hw0:w.2=0:=hw1.2 ⟨h.schemes k p c hpk q2,q3⟩;refine zoL ?_;simp(disch:=omega) [zaB,zao,w64_id,zAj s _ (by omega),q1,ixR,hpk,q2,hw,hw0,ih]
theorem zIW:cw zmK [.agg (zas s)] []=some (zap true):=by
 have hp:=h.papers;have hl:=h.seeds;have hsl:=h.scripts.1;refine zyn ?_;simp(disch:=omega)only[zad,zaN];refine zcl s.Seeds (λi r=>zi4 s i=some (zap true)) ?_ ?_
 ·exact zpT (by simp(disch:=omega) [zaN]<;>rfl)
 · intro i hi r hr ih;obtain⟨k,p,q1,q2⟩:=h.seed _ (zar hi);have hpk:=zuf q1;have hpl:=(h.okPaper hpk).2.2.1
   have rest:zhT s i s.Seeds[i]=some (zap true):=by refine zun ?_;simp(disch:=omega) [zao,w64_id,zAg s _ (by omega) (by omega),q1,ixR,hpk,zIV _ _ (by omega) q2,ih]
   refine zpT ?_;by_cases h0:0<i
   ·have:=zr7.2 h.asc i hi h0;simp(disch:=omega) [zaB,zaN,zao,w64_id,zfo h0,rest]
   ·simp(disch:=omega) [zaB,zaN,zao,rest]
theorem znQ:cw zh2 [.agg (zas s)] []=some (zbm 0):=by obtain⟨e1,h1,h2⟩:=zF3 s.Markers h.short2;obtain⟨e2,h3,h4⟩:=zw7 s.Scripts;have g1:=h2.2 h.markers;have g2:=h4.2 h.scripts;subst g1 g2;refine zEX ?_;simp only[h1,h3,za7,za7,zHF h,zF7 h,zIW h,zqZ _ h.monitor,zKA,zKA,zKA,za7,bne_self_eq_false,zaF,zaz];rfl
end
def DOk(d:zaj):Prop:=0<=d.At/\d.L.length<=600
abbrev mD(d:zaj):Mem:=[(1000,pI d)]
theorem tmod_lt{a n:Int}(hn:0<n):-n<a.tmod n/\a.tmod n<n:=by have h1:=zf7 a hn;refine⟨?_,h1⟩;have h2:=zf7 (-a) hn;rw[Int.neg_tmod]at h2;omega
theorem c_Light(t:List Int):cw zuW [.sl 1 (List.map zai t)] []=some (zap (decide ((t.length:Int)<=600))):=
 zI2 (by rw[zad];rfl)
theorem c_Roll(t:List Int):cw zwx [.sl 1 (List.map zai t)] []=some (zwF ⟨t,0⟩):=zJV rfl
theorem zdk(d:zaj)(n:Int)(hd:DOk d)(hn:n<=4611686018427387904):∃(r:Int) (d':zaj),cw zbn [.loc 1000 2 0 0,I n] (mD d)=some (zmW (r,d'))/\0<=r/\(r<n\/r=0)/\DOk d':=by
 by_cases h1:(d.L.length:Int)<=d.At
 ·refine⟨0,d,zmB ?_,by omega,.inr rfl,hd⟩;simp(disch:=omega)only[zad,zaB];rfl
 by_cases h2:n<1
 ·refine⟨0,d,zmB ?_,by omega,.inr rfl,hd⟩;simp(disch:=omega)only[zad,zaB,zaN];rfl
 obtain⟨ha,hl⟩:=hd;have hlt:d.At.toNat<d.L.length:=by omega
 have hb:=tmod_lt (a:=d.L[d.At.toNat]) (n:=n) (by omega);have hd':DOk ⟨d.L,d.At+1⟩:=⟨by grind,hl⟩
 by_cases h3:(d.L[d.At.toNat]).tmod n<0
 ·refine⟨(d.L[d.At.toNat]).tmod n+n,⟨d.L,d.At+1⟩,zmB ?_,by omega,.inl (by omega),hd'⟩;simp(disch:=omega) [zaB,zaN,zao,hlt,w64_id];rfl
 ·refine⟨(d.L[d.At.toNat]).tmod n,⟨d.L,d.At+1⟩,zmB ?_,by omega,.inl (by omega),hd'⟩;simp(disch:=omega) [zaB,zaN,zao,hlt,w64_id];rfl
theorem zqY(d:zaj)(n:Int)(hd:DOk d)(hn:n<=4611686018427387904):∃(r:Bool) (d':zaj),cw zeV [.loc 1000 2 0 0,I n] (mD d)=some (zqh (r,d'))/\DOk d':=by obtain⟨r,d',h,_,_,hd'⟩:=zdk d n hd hn;exact⟨_,d',zDp (by simp only[h,zbo];rfl),hd'⟩
theorem c_Pick(d:zaj)(l:List Int)(hd:DOk d)(hl:l≠[])(hl2:l.length<=1000):∃(r:Int) (d':zaj),cw zhA [.loc 1000 2 0 0,.sl 1 (List.map zai l)] (mD d)=some (zmW (r,d'))/\r∈l/\DOk d':=by
 obtain⟨r,d',h,h0,h1,hd'⟩:=zdk d l.length hd (by omega);have hpos:0<l.length:=zhW.2 hl;have hlt:r.toNat<l.length:=by omega
 refine⟨l[r.toNat],d',zDr ?_,zar hlt,hd'⟩;simp(disch:=omega)only[zad,h,zbo,zao,zce,zaa hlt,zae];rfl
def DPaper(p:zaM):Prop:=p.Parts.length<=3/\1<=p.Parts.length/\(∀x∈p.Parts,OkPart x/\x.Max<=6)/\∃y,p.Parts[0]?=some y/\y.Kind=1/\3<=y.Max
theorem DPaper.ok{p:zaM}(h:DPaper p)(h1:0<=p.Code/\p.Code<=31)(h2:0<=p.Variant/\p.Variant<4):zij p:=by obtain⟨a,b,c,_⟩:=h;refine⟨h1,h2,by omega,λx hx=>(c x hx).1,?_⟩;have:=(zA8 (λx hx=>(c x hx).1)).2;omega
theorem zBm(d:zaj)(a b:Int)(hd:DOk d):∃(p:zaM) (d':zaj),cw zgf [.loc 1000 2 0 0,I a,I b] (mD d)=some (zpr (p,d'))/\p.Code=a/\p.Variant=b/\DPaper p/\DOk d':=by
 obtain⟨n0,d0,e0,a0,b0,hd0⟩:=zdk d 4 hd (by omega);obtain⟨n1,d1,e1,a1,b1,hd1⟩:=zdk d0 3 hd0 (by omega);by_cases h1:0<n1
 · obtain⟨n2,d2,e2,a2,b2,hd2⟩:=zdk d1 2 hd1 (by omega);obtain⟨n3,d3,e3,a3,b3,hd3⟩:=zdk d2 4 hd2 (by omega);obtain⟨n4,d4,e4,a4,b4,hd4⟩:=zdk d3 2 hd3 (by omega)
   have start:∀y,zly a b (n0,d0) (n2,d2) (n3,d3)=some y->cw zgf [.loc 1000 2 0 0,I a,I b] (mD d)=some y:=by intro y hy;refine ztR ?_;simp(disch:=omega)only[e0,e1,e2,e3,zbo,zaB,zao,zbx,hy]
   by_cases h4:0<n4
   · obtain⟨n5,d5,e5,a5,b5,hd5⟩:=zdk d4 4 hd4 (by omega);refine⟨⟨a,b,[⟨1,3+n0,0,0,0,0⟩,⟨2,1+n2,0,0,4,n3⟩,⟨1,2+n5,0,0,0,0⟩]⟩,d5,start _ (zpR ?_),rfl,rfl,⟨by simp,by simp,?_,_,rfl,rfl,by dsimp only;omega⟩,hd5⟩
     ·simp(disch:=omega)only[e4,e5,zbo,zaB,zao,zbx,w64_id];rfl
     ·intro x hx;simp only[za4,zcD,or_false]at hx;rcases hx with rfl|rfl|rfl<;>exact⟨by unfold OkPart;dsimp only;omega,by dsimp only;omega⟩
   · refine⟨⟨a,b,[⟨1,3+n0,0,0,0,0⟩,⟨2,1+n2,0,0,4,n3⟩]⟩,d4,start _ (zpR ?_),rfl,rfl,⟨by simp,by simp,?_,_,rfl,rfl,by dsimp only;omega⟩,hd4⟩
     ·simp(disch:=omega)only[e4,zbo,zaN,zao,zbx,w64_id];rfl
     ·intro x hx;simp only[za4,zcD,or_false]at hx;rcases hx with rfl|rfl<;>exact⟨by unfold OkPart;dsimp only;omega,by dsimp only;omega⟩
 · obtain⟨n4,d4,e4,a4,b4,hd4⟩:=zdk d1 2 hd1 (by omega)
   have start:∀y,zke a b (n0,d0) (n1,d1)=some y->cw zgf [.loc 1000 2 0 0,I a,I b] (mD d)=some y:=by intro y hy;refine ztR ?_;simp(disch:=omega)only[e0,e1,zbo,zaN,hy]
   by_cases h4:0<n4
   · obtain⟨n5,d5,e5,a5,b5,hd5⟩:=zdk d4 4 hd4 (by omega);refine⟨⟨a,b,[⟨1,3+n0,0,0,0,0⟩,⟨1,2+n5,0,0,0,0⟩]⟩,d5,start _ (zoI ?_),rfl,rfl,⟨by simp,by simp,?_,_,rfl,rfl,by dsimp only;omega⟩,hd5⟩
     ·simp(disch:=omega)only[e4,e5,zbo,zaB,zao,zbx,w64_id];rfl
     ·intro x hx;simp only[za4,zcD,or_false]at hx;rcases hx with rfl|rfl<;>exact⟨by unfold OkPart;dsimp only;omega,by dsimp only;omega⟩
   · refine⟨⟨a,b,[⟨1,3+n0,0,0,0,0⟩]⟩,d4,start _ (zoI ?_),rfl,rfl,⟨by simp,by simp,?_,_,rfl,rfl,by dsimp only;omega⟩,hd4⟩
     ·simp(disch:=omega)only[e4,zbo,zaN,zao,zbx,w64_id];rfl
     ·intro x hx;simp only[za4,zcD,or_false]at hx;subst hx;exact⟨by unfold OkPart;dsimp only;omega,by dsimp only;omega⟩
theorem c_Scheme(d:zaj)(p:zaM)(hd:DOk d)(hp:DPaper p)(hok:zij p):∃(c:zbu) (d':zaj),cw zok [.loc 1000 2 0 0,.agg (zaQ p)] (mD d)=some (zoC (c,d'))/\ze8 p c/\Short c/\DOk d':=by
 have hl:=hp.1;have hl2:=hp.2.1;obtain⟨b,d0,e0,hd0⟩:=zqY d 6 hd (by omega)
 have good:∀W:List Int,W.length=p.Parts.length->(∀k∈W,0<=k/\k<=2)->ze8 p ⟨List.replicate p.Parts.length [],W⟩/\Short ⟨List.replicate p.Parts.length [],W⟩:=by
  intro W hW hk;refine⟨⟨hok,by simp,hW,λj x ks k q1 q2 q3=>⟨?_,hk k (zaq q3)⟩⟩,?_⟩
  ·have:=zaq q2;rw[List.mem_replicate]at this;rw[this.2];exact⟨by simp,λj hj=>by simp at hj⟩
  · intro ks hks
    simp_all
 cases b with
 |true =>
   obtain⟨n1,d1,e1,a1,b1,hd1⟩:=zdk d0 p.Parts.length hd0 (by omega);obtain⟨n2,d2,e2,a2,b2,hd2⟩:=zdk d1 2 hd1 (by omega);have hlt:n1.toNat<p.Parts.length:=by omega
   obtain⟨g1,g2⟩:=good ((List.replicate p.Parts.length 0).set n1.toNat (1+n2)) (by simp) (by grind)
   refine⟨_,d2,zsU ?_,g1,g2,hd2⟩;have hlt':n1.toNat<(List.replicate p.Parts.length (0:Int)).length:=by simpa using hlt
   simp(disch:=omega)only[zad,zao,zbx,e0,e1,e2,zdT,zbo,zaV,zah,zcf,zaY,zxn zai,zce,zaa hlt',zae];refine zvu ?_;simp(disch:=omega)only[zad,zao,zbx,zah,zcf,zaY,zeR,zaX,w64_id];rw[show List.take p.Parts.length (List.replicate p.Parts.length [AV.sl 1 []])=List.replicate p.Parts.length [AV.sl 1 []]from zaJ (by simp),zaJ (Nat.le_of_eq (by simp_all))];rw[show List.replicate p.Parts.length [AV.sl 1 []]=mT (List.replicate p.Parts.length [])by simp[zc9],show List.replicate p.Parts.length [I 0]=List.map zai (List.replicate p.Parts.length 0)by simp[zai],show[I (1+n2)]=zai (1+n2)from rfl,zgE];rfl
 |false =>
   obtain⟨g1,g2⟩:=good (List.replicate p.Parts.length 0) (by simp) (by simp_all)
   refine⟨_,d0,zsU ?_,g1,g2,hd0⟩;simp(disch:=omega)only[zad,zao,zbx,e0,zdT,zaz,zah];refine zuk ?_;simp(disch:=omega)only[zad,zao,zbx,zah,zcf,zaY,zaX];rw[show List.take p.Parts.length (List.replicate p.Parts.length [AV.sl 1 []])=List.replicate p.Parts.length [AV.sl 1 []]from zaJ (by simp),zaJ (Nat.le_of_eq (by simp_all))];rw[show List.replicate p.Parts.length [AV.sl 1 []]=mT (List.replicate p.Parts.length [])by simp[zc9],show List.replicate p.Parts.length [I 0]=List.map zai (List.replicate p.Parts.length 0)by simp[zai]];rfl
def zoN(ps:List zaM):Prop:=1<=ps.length/\ps.length<=3/\(∀p∈ps,DPaper p/\(0<=p.Code/\p.Code<=1)/\(0<=p.Variant/\p.Variant<=1))/\∀p∈ps,∀q∈ps,p.Code=q.Code->p.Variant=q.Variant->p=q
def zvB(ps:List zaM)(cs:List zbu):Prop:=∀(j:Nat) (p:zaM) (c:zbu),ps[j]?=some p->cs[j]?=some c->ze8 p c/\Short c
theorem c_Papers(d:zaj)(hd:DOk d):∃(ps:List zaM) (cs:List zbu) (d':zaj),cw zjc [.loc 1000 2 0 0] (mD d)=some (zjj ((ps,cs),d'))/\zoN ps/\cs.length=ps.length/\zvB ps cs/\DOk d':=by
 have loop:∀(ps:List zaM),zoN ps->∀(d:zaj),DOk d->∃(cs:List zbu) (d':zaj),zfi (mJ ps) (mU []) d 0=some (zjj ((ps,cs),d'))/\cs.length=ps.length/\zvB ps cs/\DOk d':=by
  intro ps hps d hd;have hpl:=hps.2.1;refine zcl ps (λi r=>∀(cs:List zbu) (d:zaj),(cs.length:Int)=i->zvB ps cs->DOk d->∃(cs':List zbu) (d':zaj),zfi (mJ ps) (mU cs) d i=some (zjj ((ps,cs'),d'))/\cs'.length=ps.length/\zvB ps cs'/\DOk d') ?_ ?_ [] d (by simp) (by intro j p c _ h;simp at h) hd
  ·intro cs d hcs hok hd;refine⟨cs,d,zrF ?_,by omega,hok,hd⟩;simp(disch:=omega)only[zad,zaN,zaY,zaX,zbx];rw[zaJ (by simp),zaJ (by simp)];rfl
  · intro i hi r hr ih cs d hcs hok hd;obtain⟨g1,g2,g3⟩:=hps.2.2.1 _ (zar hi);obtain⟨c,d1,e1,o1,o2,hd1⟩:=c_Scheme d ps[i] hd g1 (g1.ok (by omega) (by omega))
    obtain⟨cs',d',e2,o3,o4,hd'⟩:=ih (cs++[c]) d1 (by simp;omega) (by
     intro j p c' hp hc;by_cases hj:j<cs.length
     ·rw[zd8 hj]at hc;exact hok j p c' hp hc
     grind) hd1
    refine⟨cs',d',zrF ?_,o3,o4,hd'⟩;simp(disch:=omega)only[zad,zaB,zao,zbx,zaY,zah,zfH,zaa hi,zae,e1,zwi,w64_id,zd3,e2]
 obtain⟨p0,d0,e0,a0,b0,g0,hd0⟩:=zBm d 0 0 hd;obtain⟨b,d1,e1,hd1⟩:=zqY d0 2 hd0 (by omega)
 cases b with
 |true =>
   obtain⟨p2,d2,e2,a2,b2,g2,hd2⟩:=zBm d1 0 1 hd1;obtain⟨b',d3,e3,hd3⟩:=zqY d2 2 hd2 (by omega)
   have start:∀y,zkD (p0,d0) (p2,d2)=some y->cw zjc [.loc 1000 2 0 0] (mD d)=some y:=by intro y hy;refine zsT ?_;simp(disch:=omega)only[e0,e1,e2,zqu,zdT,zaV,zao,zbx,hy]
   cases b' with
   |true =>
     obtain⟨p4,d4,e4,a4,b4,g4,hd4⟩:=zBm d3 1 0 hd3
     obtain⟨cs,d',e5,o3,o4,hd'⟩:=loop [p0,p2,p4] (by
      refine⟨by simp,by simp,?_,?_⟩<;>simp only[za4,zcD,or_false]
      ·simp_all
      simp_all) d4 hd4
     refine⟨[p0,p2,p4],cs,d',start _ (zph ?_),?_,o3,o4,hd'⟩
     ·simp_all
     · refine⟨by simp,by simp,?_,?_⟩<;>simp only[za4,zcD,or_false]
       ·simp_all
       simp_all
   |false =>
     have hP:zoN [p0,p2]:=by
      refine⟨by simp,by simp,?_,?_⟩<;>simp only[za4,zcD,or_false]
      ·simp_all
      ·simp_all
     obtain⟨cs,d',e5,o3,o4,hd'⟩:=loop [p0,p2] hP d3 hd3;refine⟨[p0,p2],cs,d',start _ (zph ?_),hP,o3,o4,hd'⟩
     simp_all
 |false =>
   obtain⟨b',d3,e3,hd3⟩:=zqY d1 2 hd1 (by omega)
   have start:∀y,zjT (p0,d0) (false,d1)=some y->cw zjc [.loc 1000 2 0 0] (mD d)=some y:=by intro y hy;refine zsT ?_;simp(disch:=omega)only[e0,e1,zqu,zdT,zaz,zao,zbx,hy]
   cases b' with
   |true =>
     obtain⟨p4,d4,e4,a4,b4,g4,hd4⟩:=zBm d3 1 0 hd3
     have hP:zoN [p0,p4]:=by
      refine⟨by simp,by simp,?_,?_⟩<;>simp only[za4,zcD,or_false]
      ·simp_all
      ·simp_all
     obtain⟨cs,d',e5,o3,o4,hd'⟩:=loop [p0,p4] hP d4 hd4;refine⟨[p0,p4],cs,d',start _ (zn3 ?_),hP,o3,o4,hd'⟩
     simp_all
   |false =>
     have hP:zoN [p0]:=by
      refine⟨by simp,by simp,?_,?_⟩<;>simp only[za4,zcD,or_false]
      ·simp_all
      ·simp_all
     obtain⟨cs,d',e5,o3,o4,hd'⟩:=loop [p0] hP d3 hd3;refine⟨[p0],cs,d',start _ (zn3 ?_),hP,o3,o4,hd'⟩
     simp_all
def DMarkers(l:List za3):Prop:=2<=l.length/\l.length<=5/\zqp l/\(∀m∈l,m.Papers.length<=2)/\∀m∈l,m.ID<=15
theorem c_Markers(d:zaj)(hd:DOk d):∃(l:List za3) (d':zaj),cw znG [.loc 1000 2 0 0] (mD d)=some (zkw (l,d'))/\DMarkers l/\DOk d':=by
 have asc1:∀{l:List za3} {m:za3},AscBy za3.ID l->(∀x∈l,x.ID<m.ID)->AscBy za3.ID (l++[m]):=by
  intro l m h1 h2 j hj;simp at hj;by_cases h:j+1<l.length
  ·rw[zft (by omega),zft h];exact h1 j h
  ·simp_all
 have loop:∀(k:Nat) (l:List za3) (d:zaj) (id:Int),DOk d->0<=id->id<=3*l.length->l.length+k<=5->(∀m∈l,zmt m/\AscBy _root_.id m.Papers)->AscBy za3.ID l->(∀m∈l,m.ID<=id)->(∀m∈l,m.Papers.length<=2)->∃(l':List za3) (d':zaj),zjr (mH l) d id k=some (zkw (l',d'))/\(l'.length=l.length+k/\(∀m∈l',zmt m/\AscBy _root_.id m.Papers)/\AscBy za3.ID l'/\(∀m∈l',m.Papers.length<=2)/\∀m∈l',m.ID<=15)/\DOk d':=by
  intro k
  induction k with
  |zero=>intro l d id hd h0 h1 h2 h3 h4 h5 h6;refine⟨l,d,zqN ?_,⟨rfl,h3,h4,h6,λm hm=>by have:=h5 m hm;omega⟩,hd⟩;simp(disch:=omega)only[zaN,zbx];rfl
  |succ k ih =>
    intro l d id hd h0 h1 h2 h3 h4 h5 h6;obtain⟨n0,d0,e0,a0,b0,hd0⟩:=zdk d 3 hd (by omega);obtain⟨n1,d1,e1,a1,hd1⟩:=c_Pick d0 [-1,-1,1,2,3] hd0 (by simp) (by simp);obtain⟨n2,d2,e2,a2,hd2⟩:=c_Pick d1 [1,1,1,2,3] hd1 (by simp) (by simp);obtain⟨n3,d3,e3,a3,hd3⟩:=c_Pick d2 [3,2,6,0,1] hd2 (by simp) (by simp);obtain⟨n4,d4,e4,a4,b4,hd4⟩:=zdk d3 4 hd3 (by omega);have hlt:n4.toNat<([[0,1],[0],[1],[0,1]]:List (List Int)).length:=by simp;omega
    have hpapers:∀q∈([[0,1],[0],[1],[0,1]]:List (List Int)),(∀n∈q,0<=n/\n<=31)/\AscBy _root_.id q/\q.length<=2:=by
     intro q hq;simp only[za4,zcD,or_false]at hq
     have A:AscBy _root_.id ([0,1]:List Int):=λj hj=>by
      simp at hj
      grind
     rcases hq with rfl|rfl|rfl|rfl
     ·simp_all
     ·exact⟨by simp,λj hj=>by simp at hj,by simp⟩
     ·exact⟨by simp,λj hj=>by simp at hj,by simp⟩
     ·simp_all
    obtain⟨q1,q2,q3⟩:=hpapers _ (zar hlt);simp only[za4,zcD,or_false]at a1 a2 a3
    obtain⟨l',d',e5,o1,hd'⟩:=ih (l++[⟨id+(1+n0),n1,n2,n3,([[0,1],[0],[1],[0,1]]:List (List Int))[n4.toNat]⟩]) d4 (id+(1+n0)) hd4 (by omega) (by simp;omega) (by simp;omega)
     (by
      intro m hm;rcases zbh.1 hm with h|h
      ·exact h3 m h
      · simp only[zcr]at h;subst h
        refine⟨⟨?_,?_,?_,?_,q1⟩,q2⟩<;>dsimp only<;>omega)
     (asc1 h4 (λx hx=>by grind))
     (by
      intro m hm;rcases zbh.1 hm with h|h
      ·have:=h5 m h;omega
      simp_all)
     (by grind)
    refine⟨l',d',zqN ?_,⟨by grind,o1.2⟩,hd'⟩;have e6:w64 (((k+1:Nat):Int)-1)=(k:Int):=by rw[w6Q];omega
    simp(disch:=omega)only[zaB,e0,e1,e2,e3,e4,zbo,zbo,zao,zbx,zad,w64_id,e6];rw[show([zc9 [0,1],zc9 [0],zc9 [1],zc9 [0,1]]:List (List AV))=mT [[0,1],[0],[1],[0,1]]from rfl,zHY,zaa hlt,zae]
    simp_all
 obtain⟨n,d0,e0,a0,b0,hd0⟩:=zdk d 4 hd (by omega);obtain⟨l',d',e1,⟨o1,o2,o3,o4,o5⟩,hd'⟩:=loop (2+n).toNat [] d0 0 hd0 (by omega) (by simp) (by simp;omega) (by simp) (λj hj=>by simp at hj) (by simp) (by simp);simp at o1;refine⟨l',d',zzA ?_,⟨by omega,by omega,⟨by omega,o2,o3⟩,o4,o5⟩,hd'⟩;simp only[e0,zbo];rw[w6Q]
 grind
theorem asc_snoc{α:Type}{f:α->Int}{l:List α}{m:α}(h1:AscBy f l)(h2:∀x∈l,f x<f m):AscBy f (l++[m]):=by
 intro j hj;simp at hj;by_cases h:j+1<l.length
 ·rw[zft (by omega),zft h];exact h1 j h
 simp_all
def zp5(n:Int)(p:zaM)(x:zaT):Prop:=
 x.Paper=p.Code/\x.Variant=p.Variant/\x.Number=p.Code*10000+x.Candidate/\(1<=x.Candidate/\x.Candidate<=n)/\(1<=x.Centre/\x.Centre<=3)/\x.Pages.length=2/\(∀y∈x.Pages,0<=y/\y<=1000000)/\OkAns p x.Answers
theorem c_Script(d:zaj)(p:zaM)(c n:Int)(hd:DOk d)(hp:DPaper p)(h1:0<=p.Code/\p.Code<=31)(hc:1<=c/\c<=n)(hn:n<=9):∃(x:zaT) (d':zaj),cw zol [.loc 1000 2 0 0,.agg (zaQ p),I c] (mD d)=some (zlf (x,d'))/\zp5 n p x/\x.Candidate=c/\DOk d':=by
 have hl:=hp.1;obtain⟨n0,d0,e0,a0,b0,hd0⟩:=zdk d 3 hd (by omega);obtain⟨n1,d1,e1,a1,b1,hd1⟩:=zdk d0 3 hd0 (by omega);have loop:=zcl p.Parts (λi r=>∀(a:List Int) (d2:zaj),(a.length:Int)=i->DOk d2->(∀(j:Nat) (x:GPart) (v:Int),p.Parts[j]?=some x->a[j]?=some v->x.Kind≠1->-2<=v/\v<x.Options)->∃(x:zaT) (d':zaj),zh9 d p c (n0,d0) (n1,d1) (List.map zai a) d2 i=some (zlf (x,d'))/\zp5 n p x/\x.Candidate=c/\DOk d') ?_ ?_ [] d1 (by simp) hd1 (by simp_all)
 · obtain⟨x,d',e2,h⟩:=loop;refine⟨x,d',zAC ?_,h⟩
   simp_all
 · intro a d2 ha hd2 hok;refine⟨⟨p.Code*10000+c,p.Code,c,1+n0,p.Variant,[100*c+p.Code,n1],a⟩,d2,zm6 ?_,?_,rfl,hd2⟩
   ·simp(disch:=omega)only[zad,zaN,zaY,zaX,zbx,w64_id];rw[zaJ (by simp),zaJ (by simp)];rfl
   · refine⟨rfl,rfl,rfl,hc,by dsimp only;omega,rfl,?_,by dsimp only;omega,hok⟩
     grind
 · intro i hi r hr ih a d2 ha hd2 hok;obtain⟨hx,_⟩:=hp.2.2.1 _ (zar hi)
   have snoc:∀v:Int,(p.Parts[i].Kind≠1->-2<=v/\v<p.Parts[i].Options)->∀(j:Nat) (x:GPart) (w:Int),p.Parts[j]?=some x->(a++[v])[j]?=some w->x.Kind≠1->-2<=w/\w<x.Options:=by
    intro v hv j x w hj hw;by_cases hja:j<a.length
    ·grind
    ·grind
   rcases kind2 hx with hk|hk
   ·obtain⟨x,d',e2,h⟩:=ih (a++[-1]) d2 (by simp;omega) hd2 (snoc _ (λh=>absurd hk h));refine⟨x,d',zm6 ?_,h⟩;simp(disch:=omega)only[zad,zaB,zao,zbx,zah,zej,zaa hi,zae,show(p.Parts[i].Kind==2)=false by rw[hk];rfl,zaz,w64_id,zd3 zai,e2]
   · obtain⟨v,d3,e3,hv,hd3⟩:=c_Pick d2 [p.Parts[i].Key,0,1,-1,-2] hd2 (by simp) (by simp)
     have hv':-2<=v/\v<p.Parts[i].Options:=by unfold OkPart at hx;simp only[za4,zcD,or_false]at hv;omega
     obtain⟨x,d',e2,h⟩:=ih (a++[v]) d3 (by simp;omega) hd3 (snoc _ (λ_=>hv'));refine⟨x,d',zm6 ?_,h⟩;simp(disch:=omega)only[zad,zaB,zao,zbx,zah,zej,zaa hi,zae,show(p.Parts[i].Kind==2)=true by rw[hk];rfl,zaV,e3,zbo,w64_id,zd3 zai,e2]
def zxN(n:Int)(ps:List zaM)(l:List zaT):Prop:=(∀x∈l,∃p∈ps,zp5 n p x)/\AscBy zaT.Number l/\(l.length:Int)<=2*n
theorem c_Scripts(d:zaj)(ps:List zaM)(n:Int)(hd:DOk d)(hps:zoN ps)(hn:0<=n/\n<=9):∃(l:List zaT) (d':zaj),cw znI [.loc 1000 2 0 0,.sl 3 (mJ ps),I n] (mD d)=some (zkx (l,d'))/\zxN n ps l/\DOk d':=by
 have hpl:=hps.2.1
 let Inv:Int->List zaT->Prop:=λcode l=>(∀x∈l,(∃p∈ps,zp5 n p x)/\x.Number<code*10000)/\AscBy zaT.Number l/\(l.length:Int)<=code*n
 let Res:Option (AV×Mem)->Prop:=λo=>∃(l:List zaT) (d':zaj),o=some (zkx (l,d'))/\zxN n ps l/\DOk d'
 have stage2:∀(out:List zaT) (d:zaj),Inv 2 out->DOk d->Res (zfJ ps n (mI out) d 2):=by intro out d hi hd;refine⟨out,d,zqO ?_,⟨λx hx=>(hi.1 x hx).1,hi.2.1,hi.2.2⟩,hd⟩;simp(disch:=omega)only[zaN,zbx];rfl
 have step:∀(code:Int),0<=code->code<=1->(∀(out:List zaT) (d:zaj),Inv (code+1) out->DOk d->Res (zfJ ps n (mI out) d (code+1)))->∀(out:List zaT) (d:zaj),Inv code out->DOk d->Res (zfJ ps n (mI out) d code):=by
  intro code hc0 hc1 next out d hi hd
  have third:∀(l:List zaM),(∀p∈l,p∈ps/\p.Code=code)->l.length<=3->∀(m:Nat) (c:Int) (out:List zaT) (d:zaj),c+m=n+1->1<=c->(∀x∈out,(∃p∈ps,zp5 n p x)/\x.Number<code*10000+c)->AscBy zaT.Number out->(out.length:Int)<=code*n+(c-1)->DOk d->Res (zhK ps n code (mJ l) (mI out) d c):=by
   intro l hl hll m
   induction m with
   |zero =>
     intro c out d hc h1 g1 g2 g3 hd;obtain⟨l',d',e1,h⟩:=next out d ⟨λx hx=>⟨(g1 x hx).1,by grind⟩,g2,by grind⟩ hd
     refine⟨l',d',zjy ?_,h⟩;simp(disch:=omega)only[zaN,w64_id,e1]
   |succ m ih =>
     intro c out d hc h1 g1 g2 g3 hd;have hcn:code*n<=9:=by rcases(by omega:code=0\/code=1)with h|h<;>rw[h]<;>omega
     have hol:out.length<=20:=by omega
     by_cases hlz:0<l.length
     · obtain⟨n0,d0,e0,a0,b0,hd0⟩:=zdk d 5 hd (by omega);by_cases h0:0<n0
       · obtain⟨n1,d1,e1,a1,b1,hd1⟩:=zdk d0 l.length hd0 (by omega);have hlt:n1.toNat<l.length:=by omega
         obtain⟨hp1,hp2⟩:=hl _ (zar hlt);obtain⟨q1,q2,q3⟩:=hps.2.2.1 _ hp1;obtain⟨x,d2,e2,hx,hxc,hd2⟩:=c_Script d1 l[n1.toNat] c n hd1 q1 (by omega) (by omega) hn.2;have hxn:=hx.2.2.1
         obtain⟨l',d',e3,h⟩:=ih (c+1) (out++[x]) d2 (by omega) (by omega)
          (by
           intro y hy;rcases zbh.1 hy with hy|hy
           ·grind
           grind)
          (asc_snoc g2 (λy hy=>by simp_all))
          (by simp;omega) hd2
         refine⟨l',d',zjy ?_,h⟩;simp(disch:=omega)only[zad,zaB,e0,zbo,e1,zao,zbx,zaY,zfH,zaa hlt,zae,e2,zwj,w64_id,zd3 za1,e3]
       ·obtain⟨l',d',e3,h⟩:=ih (c+1) out d0 (by omega) (by omega) (λy hy=>⟨(g1 y hy).1,by grind⟩) g2 (by omega) hd0;refine⟨l',d',zjy ?_,h⟩;simp(disch:=omega)only[zad,zaB,zaN,e0,zbo,w64_id,e3]
     · obtain⟨l',d',e1,h⟩:=next out d ⟨λx hx=>⟨(g1 x hx).1,by grind⟩,g2,by grind⟩ hd
       refine⟨l',d',zjy ?_,h⟩;simp(disch:=omega)only[zad,zaB,zaN,w64_id,e1]
  have second:=zcl ps (λi r=>∀l:List zaM,(∀p∈l,p∈ps/\p.Code=code)->(l.length:Int)<=i->Res (zhJ ps n (mI out) d code (mJ l) i)) ?_ ?_ [] (by simp) (by simp)
  ·obtain⟨l',d',e1,h⟩:=second;refine⟨l',d',zqO ?_,h⟩;simp(disch:=omega)only[zaB];exact e1
  · intro l hl hll;obtain⟨l',d',e1,h⟩:=third l hl (by omega) n.toNat 1 out d (by omega) (by omega) (λx hx=>⟨(hi.1 x hx).1,by grind⟩) hi.2.1 (by have:=hi.2.2;omega) hd;refine⟨l',d',zmj ?_,h⟩
    simp_all
  · intro i hi' r hr ih l hl hll;by_cases hcode:ps[i].Code=code
    · obtain⟨l',d',e1,h⟩:=ih (l++[ps[i]]) (by grind) (by simp;omega)
      refine⟨l',d',zmj ?_,h⟩;simp(disch:=omega)only[zad,zaB,zao,zbx,zah,zfH,zaa hi',zae,show(ps[i].Code==code)=true by simpa using hcode,zaV,w64_id,zd3 zaQ,e1]
    ·obtain⟨l',d',e1,h⟩:=ih l hl (by omega);refine⟨l',d',zmj ?_,h⟩;simp(disch:=omega)only[zad,zaB,zao,zbx,zah,zfH,zaa hi',zae,show(ps[i].Code==code)=false by simpa using hcode,zaz,w64_id,e1]
 have stage1:=step 1 (by omega) (by omega) stage2;have stage0:=step 0 (by omega) (by omega) stage1;obtain⟨l,d',e1,h⟩:=stage0 [] d ⟨by simp,λj hj=>by simp at hj,by simp⟩ hd;exact⟨l,d',zzC e1,h⟩
def zEB:zaM:=⟨0,0,[]⟩
theorem zx6(ps:List zaM)(x:zaT)(hl:ps.length<=1000000):cw zom [.sl 3 (mJ ps),.agg (za1 x)] []=some (zrA (((zfW ps x).map (·.2)).getD zEB)):=by
 refine zI3 ?_;have key:=zh6 ps (λp=>p.Code==x.Paper&&p.Variant==x.Variant) (λi=>zl8 ps x i) (λo=>zrA ((o.map (·.2)).getD zEB)) ?_ ?_ ?_
 ·exact key
 ·exact zsz (by simp(disch:=omega) [zaN]<;>rfl)
 ·intro i hi h;refine zsz ?_;rw[zaO]at h;simp(disch:=omega) [zaB,zao,h.1,h.2];rfl
 · intro i hi y h hk;refine zsz ?_
   cases h1:(ps[i].Code==x.Paper)with
   |false=>simp(disch:=omega) [zaB,zao,w64_id,h1,hk]
   |true=>rw[h1,zcx]at h;simp(disch:=omega) [zaB,zao,w64_id,h1,h,hk]
theorem c_Seed(d:zaj)(ps:List zaM)(x:zaT)(k:Nat)(p:zaM)(hd:DOk d)(hps:ps.length<=1000000)(hk:zfW ps x=some (k,p))(hp:DPaper p):∃(y:GSeed) (d':zaj),cw zqc [.loc 1000 2 0 0,.sl 3 (mJ ps),.agg (za1 x)] (mD d)=some (zmX (y,d'))/\y.Script=x.Number/\zlZ p y.Marks/\DOk d':=by
 have hl:=hp.1;have loop:=zcl p.Parts (λi r=>∀(a:List Int) (d2:zaj),(a.length:Int)=i->DOk d2->(∀(j:Nat) (x:GPart) (v:Int),p.Parts[j]?=some x->a[j]?=some v->0<=v/\v<=x.Max)->∃(y:GSeed) (d':zaj),zk3 x p (List.map zai a) d2 i=some (zmX (y,d'))/\y.Script=x.Number/\zlZ p y.Marks/\DOk d') ?_ ?_ [] d (by simp) hd (by simp_all)
 ·obtain⟨y,d',e2,h⟩:=loop;refine⟨y,d',zDt ?_,h⟩;simp only[zx6 ps x hps,hk,zmA];exact e2
 ·intro a d2 ha hd2 hok;refine⟨⟨x.Number,a⟩,d2,ztd ?_,rfl,⟨by dsimp only;omega,hok⟩,hd2⟩;simp(disch:=omega)only[zad,zaN,zaY,zaX,zbx,w64_id];rw[zaJ (by simp)];rfl
 · intro i hi r hr ih a d2 ha hd2 hok;obtain⟨hx,hx2⟩:=hp.2.2.1 _ (zar hi);have hm:=hx.1;obtain⟨v,d3,e3,a3,b3,hd3⟩:=zdk d2 (p.Parts[i].Max+1) hd2 (by omega)
   obtain⟨y,d',e2,h⟩:=ih (a++[v]) d3 (by simp;omega) hd3 (by grind)
   refine⟨y,d',ztd ?_,h⟩;simp(disch:=omega)only[zad,zaB,zao,zbx,zah,zej,zaa hi,zae,w64_id,e3,zbo,zd3 zai,e2]
theorem c_Monitor(d:zaj)(hd:DOk d):∃(r:zbv) (d':zaj),cw znH [.loc 1000 2 0 0] (mD d)=some (znK (r,d'))/\OkMon r/\DOk d':=by obtain⟨n0,d0,e0,a0,b0,hd0⟩:=zdk d 3 hd (by omega);obtain⟨n1,d1,e1,a1,b1,hd1⟩:=zdk d0 2 hd0 (by omega);obtain⟨n2,d2,e2,a2,b2,hd2⟩:=zdk d1 3 hd1 (by omega);obtain⟨n3,d3,e3,a3,b3,hd3⟩:=zdk d2 (1+n0) hd2 (by omega);refine⟨⟨n1,n2,1+n0,1+n3⟩,d3,zzB ?_,by refine⟨?_,?_,?_,?_⟩<;>dsimp only<;>omega,hd3⟩;simp(disch:=omega)only[e0,e1,e2,zbo,w64_id,e3];rfl
structure DSetup(s:zan):Prop where
 ok:zb3 s
 papers:zoN s.Papers
 markers:DMarkers s.Markers
 scripts:zxN 4 s.Papers s.Scripts
theorem zyE{ps:List zaM}(hps:zoN ps){n:Int}{p:zaM}{x:zaT}(hp:p∈ps)(hx:zp5 n p x):∃k,zfW ps x=some (k,p):=by
 unfold zfW
 cases hf:fnd (λp=>p.Code==x.Paper&&p.Variant==x.Variant) 0 ps with
 |none=>have:=zsn.1 hf p hp;rw[hx.1,hx.2.1]at this;simp at this
 |some q =>
   obtain⟨k,p'⟩:=q;obtain⟨h1,h2,_⟩:=fnd_at hf;simp only[zaO,beq_iff_eq]at h2;have:=hps.2.2.2 p' (zaq h1) p hp (by rw[h2.1,hx.1]) (by rw[h2.2,hx.2.1])
   simp_all
theorem scripts_ok{n:Int}(hn:n<=9){ps:List zaM}(hps:zoN ps){l:List zaT}(h:zxN n ps l):zkM l:=by refine⟨by have:=h.2.2;omega,λx hx=>?_,h.2.1⟩;obtain⟨p,hp,a,b,c,d,e,f,_⟩:=h.1 x hx;obtain⟨q1,q2,q3⟩:=hps.2.2.1 p hp;exact⟨by omega,by omega,by omega,by omega,by rw[c,a],by omega⟩
theorem c_Setup(d:zaj)(hd:DOk d):∃(s:zan) (d':zaj),cw zpn [.loc 1000 2 0 0] (mD d)=some (zlW (s,d'))/\DSetup s/\DOk d':=by
 obtain⟨ps,cs,d0,e0,o0,p0,q0,hd0⟩:=c_Papers d hd;obtain⟨ms,d1,e1,o1,hd1⟩:=c_Markers d0 hd0;obtain⟨xs,d2,e2,o2,hd2⟩:=c_Scripts d1 ps 4 hd1 o0 (by omega);obtain⟨mr,d3,e3,o3,hd3⟩:=c_Monitor d2 hd2;have hxl:=o2.2.2;have hpl:=o0.2.1;have hxs:=scripts_ok (by omega) o0 o2;have loop:=zcl xs (λi r=>∀(sd:List GSeed) (d4:zaj),(sd.length:Int)<=i->DOk d4->AscBy GSeed.Script sd->(∀y∈sd,∀x∈r,y.Script<x.Number)->(∀y∈sd,∃x∈xs,∃k p,y.Script=x.Number/\zfW ps x=some (k,p)/\zlZ p y.Marks)->∃(s:zan) (d':zaj),ziC ((ps,cs),d0) (ms,d1) (xs,d2) (mr,d3) (mM sd) d4 i=some (zlW (s,d'))/\DSetup s/\DOk d') ?_ ?_ [] d3 (by simp) hd3 (λj hj=>by simp at hj) (by simp) (by simp)
 · obtain⟨s,d',e4,h⟩:=loop;refine⟨s,d',zBX ?_,h⟩
   simp_all
 · intro sd d4 hl hd4 ha _ hs;refine⟨⟨ms,xs,ps,cs,sd,mr⟩,d4,znM ?_,?_,hd4⟩
   ·simp(disch:=omega)only[zad,zaN,zaY,zaX,zbx];rw[zaJ (by simp),zaJ (by simp),zaJ (by simp)];rfl
   · refine⟨⟨o1.2.2.1,hxs,by dsimp only;omega,p0,λj p c hp hc=>(q0 j p c hp hc).1,λx hx=>?_,by dsimp only;omega,ha,λy hy=>?_,o3,λc hc=>?_,λm hm=>by have:=o1.2.2.2.1 m hm;omega⟩,o0,o1,o2⟩
     ·obtain⟨p,hp,hxp⟩:=o2.1 x hx;obtain⟨k,hk⟩:=zyE o0 hp hxp;have hpk:=(zfl hk).1;have hlt:=(zam.1 hpk).1;exact⟨k,p,cs[k]'(show k<cs.length by omega),hk,zaa _,hxp.2.2.2.2.2.2.2⟩
     ·obtain⟨x,hx,k,p,h1,h2,h3⟩:=hs y hy;refine⟨k,p,?_,h3⟩;unfold zfX;dsimp only;rw[h1,zoE hxs.2.2 hx];exact h2
     ·obtain⟨j,hj,rfl⟩:=zbz.1 hc;exact(q0 j _ _ (zaa (by simp only at hj;omega)) (zaa hj)).2
 · intro i hi r hr ih sd d4 hl hd4 ha hlt hs;obtain⟨b,d5,e5,hd5⟩:=zqY d4 3 hd4 (by omega)
   have hrm:∀x∈r,x∈xs/\xs[i].Number<x.Number:=by intro x hx;rw[<-hr]at hx;obtain⟨j,hj,rfl⟩:=zbz.1 hx;rw[List.getElem_drop];exact⟨zar _,asc_lt hxs.2.2 i _ _ (by omega)⟩
   cases b with
   |false=>obtain⟨s,d',e4,h⟩:=ih sd d5 (by omega) hd5 ha (λy hy x hx=>hlt y hy x (by simp[hx])) hs;refine⟨s,d',znM ?_,h⟩;simp(disch:=omega)only[zad,zaB,e5,zdT,zaz,w64_id,e4]
   |true =>
     obtain⟨p,hp,hxp⟩:=o2.1 _ (zar hi);obtain⟨k,hk⟩:=zyE o0 hp hxp;obtain⟨y,d6,e6,h1,h2,hd6⟩:=c_Seed d5 ps xs[i] k p hd5 (by omega) hk (o0.2.2.1 p hp).1
     obtain⟨s,d',e4,h⟩:=ih (sd++[y]) d6 (by simp;omega) hd6 (asc_snoc ha (λz hz=>by simp_all))
      (by grind)
      (by grind)
     refine⟨s,d',znM ?_,h⟩;simp(disch:=omega)only[zad,zaB,e5,zdT,zaV,zao,zbx,zaY,zah,zhs,zaa hi,zae,e6,zyb,w64_id,zd3 zcA,e4]
def Sat{β:Type}(Q:β->Prop)(o:Option β):Prop:=∃y,o=some y/\Q y
theorem sat_of{β:Type}{Q:β->Prop}{a b:Option β}(h:∀y,a=some y->b=some y)(ha:Sat Q a):Sat Q b:=by obtain⟨y,e,hq⟩:=ha;exact⟨y,h y e,hq⟩
theorem zqk{β:Type}{Q:β->Prop}{y:β}(h:Q y):Sat Q (some y):=⟨y,rfl,h⟩
theorem ofScript{s:zan}(hs:DSetup s){x:zaT}(hx:x∈s.Scripts):∃k p,zfW s.Papers x=some (k,p)/\p∈s.Papers/\zp5 4 p x/\DPaper p:=by obtain⟨p,hp,h⟩:=hs.scripts.1 x hx;obtain⟨k,hk⟩:=zyE hs.papers hp h;exact⟨k,p,hk,hp,h,(hs.papers.2.2.1 p hp).1⟩
theorem c_Mark(d:zaj)(s:zan)(a b:Int)(hd:DOk d)(hs:DSetup s):∃(e:zac) (d':zaj),cw zqa [.loc 1000 2 0 0,.agg (zas s),I a,I b] (mD d)=some (zqi (e,d'))/\(e.Pages.length<=12/\e.Kind=0)/\DOk d':=by
 have hm:=hs.markers;have hsl:=hs.scripts.2.2;have hpl:=hs.papers.2.1;obtain⟨n0,d0,e0,a0,b0,hd0⟩:=zdk d s.Markers.length hd (by have:=hm.2.1;omega);have hlt:n0.toNat<s.Markers.length:=by have:=hm.1;omega
 by_cases hz:s.Scripts.length=0
 ·refine⟨⟨⟨b,s.Markers[n0.toNat].ID,a⟩,0,0,0,0,0,[]⟩,d0,zp7 ?_,⟨by simp,rfl⟩,hd0⟩;simp(disch:=omega)only[zad,e0,zbo,zao,zfB,zaa hlt,zae,hz,Int.ofNat_zero,Int.natCast_zero,beq_self_eq_true,zaV,zaY,zaX,zbx];rfl
 · obtain⟨n1,d1,e1,a1,b1,hd1⟩:=zdk d0 s.Scripts.length hd0 (by omega);have hl1:n1.toNat<s.Scripts.length:=by omega
   obtain⟨k,p,hk,hp,hx,hdp⟩:=ofScript hs (zar hl1);have hpp:=hdp.1;have hpq:=hdp.2.1;have hpg:=hx.2.2.2.2.2.1;obtain⟨n2,d2,e2,a2,b2,hd2⟩:=zdk d1 p.Parts.length hd1 (by omega);have hl2:n2.toNat<p.Parts.length:=by omega
   have hx2:=(hdp.2.2.1 _ (zar hl2)).1.1;obtain⟨n3,d3,e3,a3,b3,hd3⟩:=zdk d2 (p.Parts[n2.toNat].Max+2) hd2 (by omega);obtain⟨v,d4,e4,hd4⟩:=zqY d3 12 hd3 (by omega);have hz':((s.Scripts.length:Int)==0)=false:=by simp;intro h;exact hz (by simpa using h)
   cases v with
   |true=>refine⟨⟨⟨b,s.Markers[n0.toNat].ID,a⟩,0,s.Scripts[n1.toNat].Number,n2,n3-1,0,[]⟩,d4,zp7 ?_,⟨by simp,rfl⟩,hd4⟩;simp(disch:=omega)only[zad,e0,zbo,zao,zfB,zaa hlt,zae,hz',zaz,e1,zhs,zaa hl1,zx6 s.Papers _ (show s.Papers.length<=1000000 by omega),hk,zbg,zbN,zmA,e2,zej,zaa hl2,w64_id,e3,e4,zdT,zaV];exact zxD (by simp(disch:=omega)only[zaY,zaX,zbx,w64_id];rfl)
   |false =>
     refine⟨⟨⟨b,s.Markers[n0.toNat].ID,a⟩,0,s.Scripts[n1.toNat].Number,n2,n3-1,0,s.Scripts[n1.toNat].Pages⟩,d4,zp7 ?_,⟨by dsimp only;omega,rfl⟩,hd4⟩;simp(disch:=omega)only[zad,e0,zbo,zao,zfB,zaa hlt,zae,hz',zaz,e1,zhs,zaa hl1,zx6 s.Papers _ (show s.Papers.length<=1000000 by omega),hk,zbg,zbN,zmA,e2,zej,zaa hl2,w64_id,e3,e4,zdT,zaz]
     exact zvt (by
      simp(disch:=omega)only[zaY,zad,zaX,zbx,w64_id];rw[zaJ (by simp)]
      rfl)
def EvK(e:zac):Prop:=e.Pages.length<=12/\(e.Kind=0\/e.Stamp.Seq<1000)
set_option maxRecDepth 20000 in
theorem c_EventsK(d:zaj)(s:zan)(n:Int)(hd:DOk d)(hs:DSetup s)(hn:0<=n/\n<=50):∃(l:List zac) (d':zaj),cw zkQ [.loc 1000 2 0 0,.agg (zas s),I n] (mD d)=some (zgF (l,d'))/\(l.length:Int)<=n/\(∀e∈l,EvK e)/\DOk d':=by
 have hm:=hs.markers;have hm1:=hm.1;have hm2:=hm.2.1;have hsl:=hs.scripts.2.2
 let Q:AV×Mem->Prop:=λy=>∃(l:List zac) (d':zaj),y=zgF (l,d')/\(l.length:Int)<=n/\(∀e∈l,EvK e)/\DOk d'
 have loop:∀(m:Nat) (i:Int) (out:List zac) (d:zaj),i+m=n->0<=i->(out.length:Int)<=i->(∀e∈out,EvK e)->DOk d->Sat Q (zdi s n (mA out) d i):=by
  intro m
  induction m with
  |zero=>intro i out d hi h0 hl hp hd;refine sat_of (λy=>zrE) ?_;simp(disch:=omega)only[zaN,zbx];exact zqk ⟨out,d,rfl,by omega,hp,hd⟩
  |succ m ih =>
    intro i out d hi h0 hl hp hd;have stay:∀d',DOk d'->Sat Q (zdi s n (mA out) d' (i+1)):=λd' hd'=>ih (i+1) out d' (by omega) (by omega) (by omega) hp hd'
    have more:∀e d',EvK e->DOk d'->Sat Q (zdi s n (mA (out++[e])) d' (i+1)):=λe d' he hd' =>
     ih (i+1) (out++[e]) d' (by omega) (by omega) (by simp;omega) (by grind) hd'
    obtain⟨n0,d0,e0,a0,b0,hd0⟩:=zdk d 20 hd (by omega);obtain⟨n1,d1,e1,a1,b1,hd1⟩:=zdk d0 14 hd0 (by omega);refine sat_of (λy=>zrE) ?_;by_cases c0:n1=0
    · obtain⟨n2,d2,e2,a2,b2,hd2⟩:=zdk d1 s.Markers.length hd1 (by omega);have hlt:n2.toNat<s.Markers.length:=by omega
      simp only[eq_self,zbx];simp(disch:=omega)only[zad,zaB,e0,zbo,e1,show(n1==0)=true by simpa using c0,zaV,e2,zao,zfB,zaa hlt,zae,zbx,w64_id];simp only[zd3 zab];exact more _ _ ⟨by simp,.inr (show i<1000 by omega)⟩ hd2
    · by_cases c1:n1=1
      · by_cases hz:0<s.Scripts.length
        · obtain⟨n2,d2,e2,a2,b2,hd2⟩:=zdk d1 s.Scripts.length hd1 (by omega);have hlt:n2.toNat<s.Scripts.length:=by omega
          obtain⟨n3,d3,e3,a3,b3,hd3⟩:=zdk d2 3 hd2 (by omega);simp only[eq_self,zbx];simp(disch:=omega)only[zad,zaB,e0,zbo,e1,show(n1==0)=false by simpa using c0,show(n1==1)=true by simpa using c1,zaV,zaz,e2,e3,zao,zhs,zaa hlt,zae,zbx,w64_id];simp only[zd3 zab];exact more _ _ ⟨by simp,.inr (show i<1000 by omega)⟩ hd3
        ·simp(disch:=omega)only[zad,zaB,zaN,e0,zbo,e1,show(n1==0)=false by simpa using c0,show(n1==1)=true by simpa using c1,zaV,zaz,w64_id];exact stay _ hd1
      · by_cases c2:n1=2
        · by_cases hz:0<out.length
          · obtain⟨n2,d2,e2,a2,b2,hd2⟩:=zdk d1 out.length hd1 (by omega);have hlt:n2.toNat<out.length:=by omega
            simp only[eq_self,zbx];simp(disch:=omega)only[zad,zaB,e0,zbo,e1,show(n1==0)=false by simpa using c0,show(n1==1)=false by simpa using c1,show(n1==2)=true by simpa using c2,zaV,zaz,e2,zao,zaY,zcs,zaa hlt,zae,zbx,w64_id]
            simp_all
          ·simp(disch:=omega)only[zad,zaB,zaN,e0,zbo,e1,show(n1==0)=false by simpa using c0,show(n1==1)=false by simpa using c1,show(n1==2)=true by simpa using c2,zaV,zaz,w64_id];exact stay _ hd1
        · by_cases c3:n1=3
          · by_cases hz:0<out.length
            · obtain⟨n2,d2,e2,a2,b2,hd2⟩:=zdk d1 out.length hd1 (by omega);have hlt:n2.toNat<out.length:=by omega
              simp only[eq_self,zbx];simp(disch:=omega)only[zad,zaB,e0,zbo,e1,show(n1==0)=false by simpa using c0,show(n1==1)=false by simpa using c1,show(n1==2)=false by simpa using c2,show(n1==3)=true by simpa using c3,zaV,zaz,e2,zao,zaY,zcs,zaa hlt,zae,zbx,w64_id (n:=i+1)];simp only[zd3 zab];exact more _ _ (show out[n2.toNat].Pages.length<=12/\(out[n2.toNat].Kind=0\/out[n2.toNat].Stamp.Seq<1000)from hp _ (zar hlt)) hd2
            ·simp(disch:=omega)only[zad,zaB,zaN,e0,zbo,e1,show(n1==0)=false by simpa using c0,show(n1==1)=false by simpa using c1,show(n1==2)=false by simpa using c2,show(n1==3)=true by simpa using c3,zaV,zaz,w64_id];exact stay _ hd1
          ·obtain⟨e,d2,e2,he,hd2⟩:=c_Mark d1 s i (w64 (w64 (5*i)+n0)) hd1 hs;simp only[eq_self,zbx];simp(disch:=omega)only[zad,zaB,e0,zbo,e1,show(n1==0)=false by simpa using c0,show(n1==1)=false by simpa using c1,show(n1==2)=false by simpa using c2,show(n1==3)=false by simpa using c3,zaz,e2,zx9,zao,zbx,w64_id (n:=i+1)];simp only[zd3 zab];exact more _ _ ⟨he.1,.inl he.2⟩ hd2
 obtain⟨y,e1,l,d',rfl,h⟩:=loop n.toNat 0 [] d (by omega) (by omega) (by simp) (by simp) hd;exact⟨l,d',zAB e1,h⟩
theorem c_Events(d:zaj)(s:zan)(n:Int)(hd:DOk d)(hs:DSetup s)(hn:0<=n/\n<=50):∃(l:List zac) (d':zaj),cw zkQ [.loc 1000 2 0 0,.agg (zas s),I n] (mD d)=some (zgF (l,d'))/\(l.length:Int)<=n/\(∀e∈l,e.Pages.length<=12)/\DOk d':=by obtain⟨l,d',h1,h2,h3,h4⟩:=c_EventsK d s n hd hs hn;exact⟨l,d',h1,h2,λe he=>(h3 e he).1,h4⟩
def FullEv(n:Int)(e:zac):Prop:=e.Pages.length<=12/\e.Kind=0/\n<=e.Stamp.Time/\e.Stamp.Time<=n+120/\1000<=e.Stamp.Seq/\e.Marker=0
theorem c_FullK(d:zaj)(s:zan)(n:Int)(hd:DOk d)(hs:DSetup s)(hn:0<=n/\n<=1000):∃(l:List zac) (d':zaj),cw zmE [.loc 1000 2 0 0,.agg (zas s),I n] (mD d)=some (zgF (l,d'))/\l.length<=120/\(∀e∈l,FullEv n e)/\DOk d':=by
 have hm2:=hs.markers.2.1;have hsl:=hs.scripts.2.2;have hpl:=hs.papers.2.1
 let Q:AV×Mem->Prop:=λy=>∃(l:List zac) (d':zaj),y=zgF (l,d')/\l.length<=120/\(∀e∈l,FullEv n e)/\DOk d'
 have loop:=zcl s.Scripts (λi _=>∀(out:List zac) (d:zaj),(out.length:Int)<=15*i->(∀e∈out,FullEv n e)->DOk d->Sat Q (zk1 s n (mA out) d i)) ?_ ?_ [] d (by simp) (by simp) hd
 ·obtain⟨y,e1,l,d',rfl,h⟩:=loop;exact⟨l,d',zDq e1,h⟩
 ·intro out d hl hp hd;refine sat_of (λy=>zta) ?_;simp(disch:=omega)only[zad,zaN,zbx];exact zqk ⟨out,d,rfl,by omega,hp,hd⟩
 · intro i hi r _ ih out d hl hp hd;obtain⟨k,p,hk,hpm,hx,hdp⟩:=ofScript hs (zar hi);have hpp:=hdp.1;have hpg:=hx.2.2.2.2.2.1;refine sat_of (λy=>zta) ?_;simp(disch:=omega)only[zad,zaB,zao,zah,zhs,zaa hi,zae,zx6 s.Papers _ (show s.Papers.length<=1000000 by omega),hk,zbg,zbN,zmA];refine zcl s.Markers (λj _=>∀(out:List zac) (d:zaj),(out.length:Int)<=15*i+3*j->(∀e∈out,FullEv n e)->DOk d->Sat Q (zk2 s n i p (mA out) d j)) ?_ ?_ out d (by omega) hp hd
   · intro out d hl hp hd;refine sat_of (λy=>ztb) ?_;simp(disch:=omega)only[zad,zaN,w64_id]
     grind
   · intro j hj r _ ih2 out d hl hp hd;refine sat_of (λy=>ztb) ?_;simp(disch:=omega)only[zad,zaB];refine zcl p.Parts (λq _=>∀(out:List zac) (d:zaj),(out.length:Int)<=15*i+3*j+q->(∀e∈out,FullEv n e)->DOk d->Sat Q (zhI s n i p j (mA out) d q)) ?_ ?_ out d (by omega) hp hd
     · intro out d hl hp hd;refine sat_of (λy=>ztc) ?_;simp(disch:=omega)only[zad,zaN,w64_id]
       grind
     · intro q hq r _ ih3 out d hl hp hd;have hmx:=(hdp.2.2.1 _ (zar hq)).1.1;refine sat_of (λy=>ztc) ?_;by_cases hkd:p.Parts[q].Kind=1
       · obtain⟨n0,d0,e0,a0,b0,hd0⟩:=zdk d 4 hd (by omega);by_cases hz:0<n0
         · obtain⟨n1,d1,e1,a1,b1,hd1⟩:=zdk d0 (p.Parts[q].Max+1) hd0 (by omega);simp(disch:=omega)only[zad,zaB,zao,zah,zej,zaa hq,zae,show(p.Parts[q].Kind==1)=true by simpa using hkd,zaV,e0,zbo,zfB,zaa hj,zhs,zaa hi,w64_id,e1,zbx,zd3 zab];refine ih3 (out++[_]) d1 (by simp;omega) ?_ hd1;intro x hx';rcases zbh.1 hx' with hx'|hx'
           ·exact hp x hx'
           ·simp only[zcr]at hx';subst hx';refine⟨?_,rfl,?_,?_,?_,rfl⟩<;>dsimp only<;>omega
         · simp(disch:=omega)only[zad,zaB,zaN,zao,zah,zej,zaa hq,zae,show(p.Parts[q].Kind==1)=true by simpa using hkd,zaV,e0,zbo,w64_id]
           grind
       · simp(disch:=omega)only[zad,zaB,zaN,zao,zah,zej,zaa hq,zae,show(p.Parts[q].Kind==1)=false by simpa using hkd,zaz,w64_id]
         grind
theorem c_Full(d:zaj)(s:zan)(n:Int)(hd:DOk d)(hs:DSetup s)(hn:0<=n/\n<=1000:=by omega):∃(l:List zac) (d':zaj),cw zmE [.loc 1000 2 0 0,.agg (zas s),I n] (mD d)=some (zgF (l,d'))/\l.length<=120/\(∀e∈l,e.Pages.length<=12)/\DOk d':=by obtain⟨l,d',h1,h2,h3,h4⟩:=c_FullK d s n hd hs hn;exact⟨l,d',h1,h2,λe he=>(h3 e he).1,h4⟩
theorem zHA(s:za6):cw ztw [.agg (zb6 s)] []=some (zap (dec (zqq s))):=by
 refine zHM ?_;simp only[zeL,decide_eq_true_eq]
 repeat' split
 all_goals first
  |(rw[zbB (by unfold zqq;omega)];rfl)
  |(rw[show decide (s.Seq<=9999)=dec (zqq s)from zfG (by simp only[decide_eq_true_eq];unfold zqq;omega)];rfl)
theorem zt3(a b c:Int):cw zkV [I a,I b,I c] []=some (zap (dec (b<=a/\a<=c))):=by
 refine e_ref28_in ?_;simp only[zeL,decide_eq_true_eq];split
 ·rw[show decide (a<=c)=dec (b<=a/\a<=c)from zfG (by simp_all)];rfl
 ·rw[zbB (by omega)];rfl
theorem zHD(e:zac):cw ztz [.agg (zab e)] []=some (zap (dec (zup e))):=by
 refine zHT ?_;simp only[zHA,zt3,zKA,zKA,zad];by_cases h1:zqq e.Stamp
 · by_cases h2:0<=e.Script/\e.Script<=319999
   · by_cases h3:e.Pages.length<=12
     · simp(disch:=omega)only[zbj h1,zbj h2,zaF,zaz,zaN];have H:=zmx e.Pages.length (λj hj=>0<=e.Pages[j]/\e.Pages[j]<=1152921504606846976) (λi=>znX e i) (λb=>zap (b&&dec (OkKind e))) ?_ ?_ ?_
       · rw[H];congr 2;rw[zdB];simp only[zaO,zns,zup];rw[zr6 (G:=λn=>0<=n/\n<=1152921504606846976)]
         simp_all
       · refine zrM ?_;simp(disch:=omega)only[zad,zaN,zt3,zKA,zcx];simp only[zeL,decide_eq_true_eq,beq_iff_eq,zns]
         repeat' split
         all_goals first
          |(rw[zbB (by unfold OkKind;omega)];rfl)
          |(refine congrArg some (congrArg zap (?_:_=dec (OkKind e)):_=zap _)
            refine zfG ?_;simp only[beq_iff_eq];unfold OkKind
            omega)
       ·intro i hi hn;refine zrM ?_;simp(disch:=omega)only[zad,zaB,zao,zah,zce,zaa hi,zae,zt3,zKA,zbB hn,zbe,zaV,zcF];rfl
       ·intro i hi y hg hk;refine zrM ?_;simp(disch:=omega)only[zad,zaB,zao,zah,zce,zaa hi,zae,zt3,zKA,zbj hg,zaF,zaz,w64_id,hk]
     ·simp(disch:=omega)only[zbj h1,zbj h2,zaF,zaz,zaB];rw[zbB (λh=>h3 h.2.2.1)];rfl
   ·simp only[zbj h1,zbB h2,zaF,zbe,zaz,zaV];rw[zbB (λh=>h2 h.2.1)];rfl
 ·simp only[zbB h1,zbe,zaV];rw[zbB (λh=>h1 h.1)];rfl
theorem zCk(a b:List Int)(hl:a.length<=1000000):cw zjL [.sl 1 (List.map zai a),.sl 1 (List.map zai b)] []=some (zap (dec (a=b))):=by
 refine zB6 ?_;by_cases h:a.length=b.length
 · simp only[zad,h,bne_self_eq_false,zaz];have H:=zmx a.length (λj hj=>a[j]=b[j]'(by omega)) (λi=>zku a b i) zap ?_ ?_ ?_
   ·rw[H,zhE];exact⟨λhh=>zeB h (λi h1 h2=>hh i h1),λhh=>by subst hh;intros;rfl⟩
   ·exact znO (by simp(disch:=omega)only[zad,zaN];rfl)
   ·intro i hi hn;refine znO ?_;simp(disch:=omega)only[zad,zaB,zao,zah,zce,zaa hi,zaa (show i<b.length by omega),zae,show(a[i] !=b[i]'(by omega))=true by simpa using hn,zaV];rfl
   ·intro i hi y hn hk;refine znO ?_;simp(disch:=omega)only[zad,zaB,zao,zah,zce,zaa hi,zaa (show i<b.length by omega),zae,show(a[i] !=b[i]'(by omega))=false by simpa using hn,zaz,w64_id,hk]
 ·rw[zbB (λhh=>h (by rw[hh]))];simp only[zad,show((a.length:Int) !=(b.length:Int))=true by grind,zaV];rfl
theorem zIR(a b:zac)(hl:a.Pages.length<=1000000):cw zu1 [.agg (zab a),.agg (zab b)] []=some (zap (dec (a=b))):=by
 refine zJb ?_;obtain⟨⟨a1,a2,a3⟩,a4,a5,a6,a7,a8,a9⟩:=a;obtain⟨⟨b1,b2,b3⟩,b4,b5,b6,b7,b8,b9⟩:=b;simp only[zeL,beq_iff_eq,zaO,zha,zCk _ _ hl,zKA]
 repeat' split
 all_goals first
  |(rw[zbB (by simp only[zac.mk.injEq,za6.mk.injEq];omega)];rfl)
  |(refine congrArg some (congrArg zap (zhE ?_):_=zap _)
    simp_all)
theorem zAn(a b:za6):cw zop [.agg (zb6 a),.agg (zb6 b)] []=some (zap (lessS a b)):=by
 refine zJa ?_;unfold lessS;simp only[zeL,bne_iff_ne];split
 ·rfl
 ·split<;>rfl
theorem zF5(a b:zac):cw zsk [.agg (zab a),.agg (zab b)] []=some (zap (lessS a.Stamp b.Stamp)):=by refine zGj ?_;simp only[zAn,zKA];rfl
def leE(a b:zac):Bool:=!lessS b.Stamp a.Stamp
theorem merge_loop(a b:List zac)(ha:a.length<=100000)(hb:b.length<=100000):∀(n i j:Nat) (out:List zac),(a.length-i)+(b.length-j)=n->i<=a.length->j<=b.length->out.length<=i+j->zl9 a b (mA out) i j=some (zdu (out++List.merge (a.drop i) (b.drop j) leE)):=by
 intro n
 induction n with
 |zero=>intro i j out hn hi hj ho;refine zxI ?_;simp(disch:=omega)only[zad,zaN,zbx];rw[zdF (show a.length<=i by omega),zdF (show b.length<=j by omega)];simp only[List.merge,zdx];rfl
 |succ n ih =>
   intro i j out hn hi hj ho
   have ta:∀hlt:i<a.length,List.merge (a.drop i) (b.drop j) leE=a[i]::List.merge (a.drop (i+1)) (b.drop j) leE->zlU a b (mA out) i j=some (zdu (out++List.merge (a.drop i) (b.drop j) leE)):=by intro hlt hm;refine zCa ?_;have h2:=ih (i+1) j (out++[a[i]]) (by omega) (by omega) hj (by simp;omega);rw[zdC,zhZ,<-hm]at h2;simp(disch:=omega)only[zad,zao,zah,zaY,zcs,zaa hlt,zae,zbx,zd3 zab,w64_id];exact h2
   have tb:∀hlt:j<b.length,List.merge (a.drop i) (b.drop j) leE=b[j]::List.merge (a.drop i) (b.drop (j+1)) leE->zlV a b (mA out) i j=some (zdu (out++List.merge (a.drop i) (b.drop j) leE)):=by intro hlt hm;refine zCb ?_;have h2:=ih i (j+1) (out++[b[j]]) (by omega) hi (by omega) (by simp;omega);rw[zdC,zhZ,<-hm]at h2;simp(disch:=omega)only[zad,zao,zah,zaY,zcs,zaa hlt,zae,zbx,zd3 zab,w64_id];exact h2
   have mid:zlT a b (mA out) i j=some (zdu (out++List.merge (a.drop i) (b.drop j) leE)):=by
    refine zB9 ?_;by_cases hjb:j=b.length
    ·simp only[zad,show((j:Int)==(b.length:Int))=true by simp[hjb],zaV];refine ta (by omega) ?_;rw[zdF (show b.length<=j by omega),zbd (show i<a.length by omega)];simp[List.merge]
    · have hjl:j<b.length:=by omega
      have hne:((j:Int)==(b.length:Int))=false:=by simp only[beq_eq_false_iff_ne,ne_eq];omega
      by_cases hia:i<a.length
      · have hm:=zbd hia;have hm2:=zbd hjl;simp(disch:=omega)only[zad,hne,zaz,zaB,zao,zah,zaY,zcs,zaa hia,zaa hjl,zae,zF5,zKA]
        cases hls:lessS b[j].Stamp a[i].Stamp with
        |false=>simp only[zbe,zaV];refine ta hia ?_;rw[hm,hm2,List.merge,if_pos (by simp[leE,hls])]
        |true=>simp only[zaF,zaz];refine tb hjl ?_;rw[hm,hm2,List.merge,if_neg (by simp[leE,hls])]
      ·simp(disch:=omega)only[zad,hne,zaz,zaN];refine tb hjl ?_;rw[zdF (show a.length<=i by omega),zbd hjl];simp[List.merge]
   refine zxI ?_;by_cases hia:i<a.length
   ·simp(disch:=omega)only[zad,zaB];exact mid
   ·simp(disch:=omega)only[zad,zaN,zaB];exact mid
end Go.Proofs.YtlecnobdfhlmnaaGreat
end
