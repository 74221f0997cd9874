/- Loops and branches of printed trees. -/
import Derived.Test.YtlecnobdfhlmnaaGreatK1
import Derived.Test.YtlecnobdfhlmnaaGreatAb2
import Derived.Test.YtlecnobdfhlmnaaGreatXAnn
import Derived.Control
set_option linter.all false
noncomputable section
set_option maxRecDepth 100000
namespace Go.Proofs.YtlecnobdfhlmnaaGreat
open Go.Ab
section
def w6Q{n:Int}(h1:-9223372036854775808<=n:=by omega)(h2:n<9223372036854775808:=by omega):w64 n=n:=w64_id h1 h2
def iNQ{c:Prop}[Decidable c]{α:Type}{t e:α}(h:¬c:=by omega):ite c t e=e:=if_neg h
def iPQ{c:Prop}[Decidable c]{α:Type}{t e:α}(h:c:=by omega):ite c t e=t:=if_pos h
def iNs{c:Prop}[Decidable c]{α:Type}{t e:α}(h:¬c:=by simp):ite c t e=e:=if_neg h
def cPQ{p:Prop}{β:Type}{x:Option β}(h:p:=by omega):chk p x=x:=zar h x
def zbq{p:Prop}(h:p):dec p=true:=by unfold dec;simp[h]
def zbJ{p:Prop}(h:¬p):dec p=false:=by unfold dec;simp[h]
def zhz{p q:Prop}(h:p↔q):dec p=dec q:=by rw[propext h]
def zoM{p:Prop}:dec p=true↔p:=by unfold dec;simp
def zf1{b:Bool}{p:Prop}(h:b=true↔p):b=dec p:=by
 by_cases hp:p
 .rw[zbq hp];exact h.2 hp
 .rw[zbJ hp];simp_all
def zeB{β:Type}(b:Bool)(t e:Option β):brn b t e=if b=true then t else e:=by cases b<;>rfl
variable{α β:Type}
def zbW(l:List α)(P:Int->List α->Prop)(h0:P l.length [])
  (hs:∀(i:Nat) (hi:i<l.length) (r:List α),l.drop (i+1)=r->P ((i:Int)+1) r->P i (l[i]::r)):P 0 l:=by
 have key:∀(n i:Nat),i+n=l.length->P (i:Int) (l.drop i):=by
  intro n
  induction n with
  |zero=>simp_all
  |succ n ih =>
    intro i hi;have hlt:i<l.length:=by omega
    rw[zbe hlt]
    grind
 have:=key l.length 0 (by omega);simpa using this
def zqg(n:Nat)(G:∀j,j<n->Prop)(K:Int->Option β)(S:β->Prop)(z:β)(h0:(∀j hj,G j hj)->K n=some z)
  (hno:∀(i:Nat) (hi:i<n),(∀j (hj:j<i),G j (by omega))->¬G i hi->∃y,S y/\K i=some y) (hyes:∀(i:Nat) (hi:i<n) (y:β),G i hi->K ((i:Int)+1)=some y->K i=some y):((∀j hj,G j hj)/\K 0=some z)\/((∃j hj,¬G j hj)/\∃y,S y/\K 0=some y):=by
 have key:∀(m i:Nat),i+m=n->(∀j (hj:j<i) (hn:j<n),G j hn)->((∀j hj,i<=j->G j hj)/\K (i:Int)=some z)\/((∃j hj,¬G j hj)/\∃y,S y/\K (i:Int)=some y):=by
  intro m
  induction m with
  |zero=>simp_all
  |succ m ih =>
    intro i hi hpre;by_cases hg:G i (by omega)
    . have:=ih (i+1) (by omega) (λj hj hn=>by grind)
      grind
    .exact .inr ⟨⟨i,by omega,hg⟩,hno i (by omega) (λj hj=>hpre j hj _) hg⟩
 rcases key n 0 (by omega) (λj hj=>by omega)with⟨h1,h2⟩|h
 .simp_all
 .exact .inr h
def zlj(n:Nat)(G:∀j,j<n->Prop)(K:Int->Option β)(q:Bool->β)(h0:K n=some (q true))
  (hno:∀(i:Nat) (hi:i<n),¬G i hi->K i=some (q false)) (hyes:∀(i:Nat) (hi:i<n) (y:β),G i hi->K ((i:Int)+1)=some y->K i=some y):K 0=some (q (dec (∀j hj,G j hj))):=by
 rcases zqg n G K (λx=>x=q false) (q true) (λ_=>h0) (λi hi _ h=>⟨_,rfl,hno i hi h⟩) hyes with⟨h1,h2⟩|⟨⟨j,hj,h1⟩,y,rfl,h2⟩
 .rw[h2,zbq h1]
 .rw[h2,zbJ (λh=>h1 (h j hj))]
def any_bool(n:Nat)(G:∀j,j<n->Prop)(K:Int->Option β)(q:Bool->β)(h0:K n=some (q false))
  (hyes:∀(i:Nat) (hi:i<n),G i hi->K i=some (q true)) (hno:∀(i:Nat) (hi:i<n) (y:β),¬G i hi->K ((i:Int)+1)=some y->K i=some y):K 0=some (q (dec (∃j hj,G j hj))):=by
 have h:=zlj n (λi hi=>¬G i hi) K (λb=>q (!b)) (by simpa using h0) (λi hi hg=>by simp_all) hno;rw[h];congr 2;by_cases hp:∃j hj,G j hj
 .rw[zbq hp,zbJ (λh=>by simp_all)];rfl
 .rw[zbJ hp,zbq (λj h1 h2=>hp ⟨j,h1,h2⟩)];rfl
def all_err(n:Nat)(G:∀j,j<n->Prop)(K:Int->Option β)(q:Int->β)(h0:K n=some (q 0))
  (hno:∀(i:Nat) (hi:i<n),¬G i hi->∃e,e≠0/\K i=some (q e)) (hyes:∀(i:Nat) (hi:i<n) (y:β),G i hi->K ((i:Int)+1)=some y->K i=some y):∃e,K 0=some (q e)/\(e=0↔∀j hj,G j hj):=by
 rcases zqg n G K (λx=>∃e,e≠0/\x=q e) (q 0) (λ_=>h0) (λi hi _ h=>by grind) hyes with⟨h1,h2⟩|⟨⟨j,hj,h1⟩,y,⟨e,h2,rfl⟩,h3⟩
 .simp_all
 grind
def all_from(s n:Nat)(hs:s<=n)(G:∀j,s<=j->j<n->Prop)(K:Int->Option β)(q:Bool->β)(h0:K n=some (q true))
  (hno:∀(i:Nat) (hs:s<=i) (hi:i<n),¬G i hs hi->K i=some (q false)) (hyes:∀(i:Nat) (hs:s<=i) (hi:i<n) (y:β),G i hs hi->K ((i:Int)+1)=some y->K i=some y):K s=some (q (dec (∀j hs hj,G j hs hj))):=by
 have h:=zlj (n-s) (λj hj=>G (s+j) (by omega) (by omega)) (λi=>K (s+i)) q (by grind)
  (λi hi hg=>by grind)
  (λi hi y hg hk=>by grind)
 rw[zfx]at h;rw[h];congr 2;refine zhz ⟨λh j h1 h2=>?_,λh j hj=>h (s+j) (by omega) (by omega)⟩;have:=h (j-s) (by omega)
 simp_all
def ztC{l:List α}{G:α->Prop}:(∀j (hj:j<l.length),G l[j])↔∀x∈l,G x:=by
 constructor
 .intro h x hx;obtain⟨j,hj,rfl⟩:=zbB.1 hx;exact h j hj
 simp_all
def zfX{i:Nat}(h:0<i):((i:Int)-1).toNat=i-1:=by omega
def ztD{f:α->Int}{l:List α}:(∀i (hi:i<l.length),∀h:0<i,f (l[i-1]'(by omega))<f l[i])↔AscBy f l:=by
 constructor
 . intro h j hj
   grind
 . intro h i hi h0;have:=h (i-1) (by omega)
   grind
def asc_lt{f:α->Int}{l:List α}(h:AscBy f l):∀(i j:Nat) (hj:j<l.length) (hij:i<j),f (l[i]'(by omega))<f l[j]:=by
 intro i j hj hij;obtain⟨d,rfl⟩:∃d,j=i+1+d:=⟨j-i-1,by omega⟩
 induction d with
 |zero=>exact h i hj
 |succ d ih =>
   have h1:=ih (by omega) (by omega);have h2:=h (i+1+d) (by omega)
   grind
def zDO{f:α->Int}{l:List α}(h:AscBy f l){i j:Nat}(hi:i<l.length)(hj:j<l.length)(e:f l[i]=f l[j]):i=j:=by
 rcases zia i j with q|q|q
 .have:=asc_lt h i j hj q;omega
 .exact q
 .have:=asc_lt h j i hi q;omega
def fnd_some{p:α->Bool}:∀{l:List α} {i j:Nat} {x:α},fnd p i l=some (j,x)->i<=j/\l[j-i]?=some x/\p x=true/\∀k y,k<j-i->l[k]?=some y->p y=false
 |[],i,j,x,h=>by simp[fnd]at h
 |a::l,i,j,x,h=>by
   simp only[fnd]at h;split at h
   .simp_all
   . rename_i ha;obtain⟨h1,h2,h3,h4⟩:=fnd_some h
     grind
def fnd_at{p:α->Bool}{l:List α}{j:Nat}{x:α}(h:fnd p 0 l=some (j,x)):l[j]?=some x/\p x=true/\∀k y,k<j->l[k]?=some y->p y=false:=by have:=(fnd_some h).2;simpa using this
def ztV{p:α->Bool}:∀{l:List α} {i:Nat},fnd p i l=none↔∀x∈l,p x=false
 |[],i=>by simp[fnd]
 |a::l,i=>by
   simp only[fnd];split
   .simp_all
   . rename_i ha;rw[ztV]
     simp_all
def fnd_of{p:α->Bool}{l:List α}{j:Nat}{x:α}(hx:l[j]?=some x)(hp:p x=true)(hk:∀k y,k<j->l[k]?=some y->p y=false):fnd p 0 l=some (j,x):=by
 cases h:fnd p 0 l with
 |none =>
   have:=ztV.1 h x (zav hx)
   simp_all
 |some q =>
   obtain⟨i,y⟩:=q;obtain⟨h1,h2,h3⟩:=fnd_at h
   grind
def ziS(l:List α)(p:α->Bool)(K:Int->Option β)(R:Option (Nat×α)->β)(h0:K l.length=some (R none))
  (hyes:∀(i:Nat) (hi:i<l.length),p l[i]=true->K i=some (R (some (i,l[i])))) (hno:∀(i:Nat) (hi:i<l.length) (y:β),p l[i]=false->K ((i:Int)+1)=some y->K i=some y):K 0=some (R (fnd p 0 l)):=by
 have H:=zqg l.length (λj hj=>p l[j]=false) K (λy=>∃i x,fnd p 0 l=some (i,x)/\y=R (some (i,x))) (R none) (λ_=>h0)
  (λi hi hpre hn=>⟨_,⟨i,l[i],fnd_of (zaa hi) (by simpa using hn) (λk y hk hy=>by grind),rfl⟩,hyes i hi (by simpa using hn)⟩) hno
 rcases H with⟨h1,h2⟩|⟨_,y,⟨i,x,h2,rfl⟩,h3⟩
 .rw[h2,ztV.2 ((ztC (G:=λx=>p x=false)).1 h1)]
 .rw[h3,h2]
def mkN(n:Nat)(f:Nat->α)(d:α)(i:Nat):List α:=(List.range n).map λj=>if j<i then f j else d
def zvX(n:Nat)(f:Nat->α)(d:α)(i:Nat):(mkN n f d i).length=n:=by simp[mkN]
def zzz{n:Nat}{f:Nat->α}{d:α}{i:Nat}(h:i<n):(mkN n f d i)[i]?=some d:=by simp[mkN,h]
def zGs(n:Nat)(f:Nat->α)(d:α):mkN n f d 0=List.replicate n d:=by unfold mkN;simp only[Nat.not_lt_zero,if_false,List.map_const',zdj]
def zwe{n:Nat}{f:Nat->α}{d:α}{i:Nat}{v:α}(hv:v=f i):(mkN n f d i).set i v=mkN n f d (i+1):=by
 subst hv;apply zc6;intro j;by_cases hj:j<n
 . by_cases e:i=j
   .subst e;rw[zeS (by rw[zvX];exact hj)];simp[mkN,hj]
   . rw[zdS e];simp only[mkN,zbx,List.getElem?_range hj,zbk]
     grind
 .rw[zhJ (by rw[zfo,zvX];omega),zhJ (by rw[zvX];omega)]
def mkN_same{n:Nat}{f:Nat->α}{d:α}{i:Nat}(h:f i=d):mkN n f d i=mkN n f d (i+1):=by
 unfold mkN
 grind
def mkN_all(n:Nat)(f:Nat->α)(d:α):mkN n f d n=(List.range n).map f:=by
 unfold mkN
 simp_all
def zf3{γ:Type}(f:α->γ)(l:List α)(i:Nat)(a:α):(List.map f l).set i (f a)=List.map f (l.set i a):=List.map_set.symm
def zdL{γ:Type}(f:α->γ)(l:List α)(a:α):List.map f l++[f a]=List.map f (l++[a]):=by simp
def zwd{γ:Type}(f:α->γ)(n:Nat)(a:α):List.replicate n (f a)=List.map f (List.replicate n a):=by simp
def take_len(l:List α):List.take l.length l=l:=zcR
end
instance(p:GPart):Decidable (OkPart p):=by unfold OkPart;infer_instance
def zwx(p:GPart):cw 236 [.agg (za8 p)] []=some (zat (dec (OkPart p))):=by
 refine zFX ?_;simp only[zL,zeB]
 repeat' split
 all_goals first
  |(rw[zbJ (by unfold OkPart;omega)];rfl)
  |(rw[show(p.xp==0)=dec (OkPart p)from zf1 (by simp only[beq_iff_eq];unfold OkPart;omega)];rfl)
  |(rw[show decide (p.xp<p.O)=dec (OkPart p)from zf1 (by simp only[decide_eq_true_eq];unfold OkPart;omega)];rfl)
def zvy(p:GPart):cw 215 [.agg (za8 p)] []=some (zat (dec (OkPart p))):=by
 refine zEv ?_;simp only[zL,zeB]
 repeat' split
 all_goals first
  |(rw[zbJ (by unfold OkPart;omega)];rfl)
  |(rw[show(p.xp==0)=dec (OkPart p)from zf1 (by simp only[beq_iff_eq];unfold OkPart;omega)];rfl)
  |(rw[show decide (p.xp<p.O)=dec (OkPart p)from zf1 (by simp only[decide_eq_true_eq];unfold OkPart;omega)];rfl)
def zyT(p:GPart)(l:List GPart):sumMax (p::l)=p.xb+sumMax l:=by simp[sumMax]
def zDz{l:List GPart}(h:∀p∈l,OkPart p):0<=sumMax l/\sumMax l<=40*l.length:=by
 induction l with
 |nil=>simp[sumMax]
 |cons p l ih=>have h1:=ih (λq hq=>h q (by simp[hq]));have h2:=(h p (by simp)).1;rw[zyT,zcA];omega
def zHh(l:List GPart)(h:∀p∈l,OkPart p)(hl:l.length<=24):cw 237 [.sl 6 (mE l)] []=some (zbv (sumMax l)):=by
 refine zHy ?_;have hb:=zDz h;refine zbW l (λi r=>∀s:Int,0<=s->0<=sumMax r->s+sumMax r=sumMax l->znc l s i=some (zbv (sumMax l))) ?_ ?_ 0 (by omega) (by omega) (by omega)
 .intro s _ _ hs;refine zvI ?_;simp(disch:=omega) [zaH];rw[<-hs];simp[sumMax];rfl
 . intro i hi r hr ih s h0 h1 hs;refine zvI ?_;have hm:=(h l[i] (zau hi)).1;rw[zyT]at hs h1;have hr0:0<=sumMax r:=(zDz (l:=r) (λq hq=>h q (by grind))).1;simp(disch:=omega) [zaB,zar,w64_id]
   grind
def zEi(p:zaQ):cw 182 [.agg (zaU p)] []=some (zat (dec (zi4 p))):=by
 refine zEo ?_;by_cases hh:((0<=p.Y/\p.Y<=31)/\(0<=p.L/\p.L<4)/\(1<=p.g.length/\p.g.length<=24))
 . simp(disch:=omega)only[zH]
   have hg:=λz h0=>zqg p.g.length (λj hj=>OkPart p.g[j]) (λi=>zlG p i) (λy=>y=zat false) z h0
    (λi hi _ hn=>⟨_,rfl,zo4 (by simp(disch:=omega) [zaB,zar,zwx,zbJ hn];rfl)⟩)
    (λi hi y hy hk=>zo4 (by simp(disch:=omega) [zaB,zar,w64_id,zwx,zbq hy,hk]))
   rcases hg (zat (dec (zi4 p))) (λh=>zo4 (by
    have h':=ztC.1 h;simp(disch:=omega) [zaH,zHh p.g h' (by omega)];rw[show decide (sumMax p.g<=200)=dec (zi4 p)from zf1 (by simp only[decide_eq_true_eq];unfold zi4;simp_all)]
    rfl))with⟨h1,h2⟩|⟨⟨j,hj,h1⟩,y,rfl,h3⟩
   .exact h2
   .rw[zbJ (λh=>h1 (h.2.2.2.1 _ (zau hj)))];exact h3
 . rw[zbJ (λh=>hh ⟨h.1,h.2.1,h.2.2.1⟩)];simp only[zeB,decide_eq_true_eq,zac]
   repeat' split
   all_goals first
    |rfl
    |omega
def zCL(p:zaQ):cw 155 [.agg (zaU p)] []=some (zat (dec (zi4 p))):=by
 refine zC8 ?_;by_cases hh:((0<=p.Y/\p.Y<=31)/\(0<=p.L/\p.L<4)/\(1<=p.g.length/\p.g.length<=24))
 . simp(disch:=omega)only[zH];have key:=zbW p.g (λi r=>∀s:Int,0<=s->s<=40*i->(zi4 p↔(∀x∈r,OkPart x)/\s+sumMax r<=200)->zkZ p s i=some (zat (dec (zi4 p)))) ?_ ?_ 0 (by omega) (by omega) ?_
   .exact key
   .intro s h0 h1 hs;refine zta ?_;simp(disch:=omega)only[zH];rw[show decide (s<=200)=dec (zi4 p)from zf1 (by rw[hs];simp[sumMax])];rfl
   . intro i hi r hr ih s h0 h1 hs;refine zta ?_;by_cases hp:OkPart p.g[i]
     . have hm:=hp.1;simp(disch:=omega) [zaB,zar,w64_id,zvy,zbq hp];refine ih _ (by omega) (by omega) (hs.trans ?_);rw[zyT]
       grind
     .simp(disch:=omega) [zaB,zar,zvy,zbJ hp];rw[zbJ (λh=>hp ((hs.1 h).1 _ (by simp)))];rfl
   . unfold zi4
     simp_all
 . rw[zbJ (λh=>hh ⟨h.1,h.2.1,h.2.2.1⟩)];simp only[zeB,decide_eq_true_eq,zac]
   repeat' split
   all_goals first
    |rfl
    |omega
def zNl{ks:aC}:OkKeys 0 ks↔ks=[]:=by
 constructor
 . intro h
   cases ks with
   |nil=>rfl
   |cons k ks=>have:=h.1 k (by simp);omega
 .rintro rfl;exact⟨by simp,λj hj=>by simp at hj⟩
def zAS{o:Int}{ks:aC}:(∀j (hj:j<ks.length),(0<=ks[j]/\ks[j]<o)/\∀h:0<j,(ks[j-1]'(by omega))<ks[j])↔OkKeys o ks:=by
 unfold OkKeys;rw[<-ztD,<-ztC]
 grind
def zpA(p:GPart)(ks:aC)(hp:OkPart p)(hl:ks.length<=1000000):cw 183 [.agg (za8 p),.sl 1 (List.map zah ks)] []=some (zat (dec (OkKeys p.O ks))):=by
 refine zDc ?_;by_cases hk:p.r=1
 . have ho:p.O=0:=by unfold OkPart at hp;omega
   simp only[zZ,hk,zac];rw[show((ks.length:Int)==0)=dec (OkKeys p.O ks)from zf1 (by rw[ho,zNl];simp)];rfl
 . simp only[show(p.r==1)=false by simpa using hk,zay];rw[<-zhz zAS];refine zlj ks.length _ (λi=>ziX p ks i) (λb=>zat b) ?_ ?_ ?_
   .exact zor (by simp(disch:=omega)only[zH];rfl)
   . intro i hi hg;refine zor ?_;by_cases h1:0<=ks[i]/\ks[i]<p.O
     . have h0:0<i:=by
        apply zfD
        rintro rfl
        exact hg ⟨h1,λh=>absurd h (by omega)⟩
       have h2:¬(ks[i-1]<ks[i]):=λh=>hg ⟨h1,λ_=>h⟩
       simp(disch:=omega) [zaB,zaH,zar,w64_id,zfX h0];rfl
     . by_cases h2:ks[i]<0
       .simp(disch:=omega) [zaB,zar];rfl
       .simp(disch:=omega) [zaB,zaH,zar];rfl
   . intro i hi y hg hk';refine zor ?_;by_cases h0:0<i
     .have h2:=hg.2 h0;have h1:=hg.1;simp(disch:=omega) [zaB,zaH,zar,w64_id,zfX h0,hk']
     .have h1:=hg.1;simp(disch:=omega) [zaB,zaH,zar,w64_id,hk']
def zxF(k:Int):cw 184 [I k] []=some (zat (dec (0<=k/\k<=2))):=by
 refine zHL ?_;simp only[zeB,beq_iff_eq]
 repeat' split
 all_goals first
  |(rw[zbq (by omega)];rfl)
  |(rw[zbJ (by omega)];rfl)
def zDr{p:zaQ}{s:zbu}(h1:s.U.length=p.g.length)(h2:s.v.length=p.g.length)(hp:zi4 p):(∀j (hj:j<p.g.length),OkKeys p.g[j].O (s.U[j]'(by omega))/\(0<=s.v[j]'(by omega)/\s.v[j]'(by omega)<=2))↔ze5 p s:=by
 unfold ze5;constructor
 .grind
 .intro h j hj;exact h.2.2.2 j _ _ _ (zaa hj) (zaa (by omega)) (zaa (by omega))
def zju(p:zaQ)(s:zbu)(hs:Short s):cw 136 [.agg (zaU p),.agg (zbI s)] []=some (zat (dec (ze5 p s))):=by
 refine zI8 ?_;simp only[zEi,zas,zac];by_cases hp:zi4 p
 . by_cases h1:s.U.length=p.g.length
   . by_cases h2:s.v.length=p.g.length
     . simp only[zG,zbq hp,h1,h2,zaG];have hpl:=hp.2.2.1;rw[<-zhz (zDr h1 h2 hp)];refine zlj p.g.length _ (λi=>zoc p s i) (λb=>zat b) ?_ ?_ ?_
       .exact zrW (by simp(disch:=omega)only[zH];rfl)
       . intro i hi hg;have hi1:i<s.U.length:=by omega
         have hi2:i<s.v.length:=by omega
         refine zrW ?_;have hx:=hp.2.2.2.1 _ (zau hi);by_cases h3:OkKeys p.g[i].O s.U[i]
         . have h4:¬(0<=s.v[i]/\s.v[i]<=2):=λh=>hg ⟨h3,h⟩
           simp(disch:=omega) [zaB,zar,zpA _ _ hx (hs _ (zau hi1)),zbq h3,zxF,zbJ h4];rfl
         .simp(disch:=omega) [zaB,zar,zpA _ _ hx (hs _ (zau hi1)),zbJ h3];rfl
       . intro i hi y hg hk';have hi1:i<s.U.length:=by omega
         have hi2:i<s.v.length:=by omega
         refine zrW ?_;have hx:=hp.2.2.2.1 _ (zau hi);simp(disch:=omega) [zaB,zar,w64_id,zpA _ _ hx (hs _ (zau hi1)),zbq hg.1,zxF,zbq hg.2,hk']
     .rw[zbJ (p:=ze5 p s) (λh=>h2 h.2.2.1)];simp only[zG,zbq hp,h1,zaG,show((s.v.length:Int) !=p.g.length)=true by grind,zaO];rfl
   .rw[zbJ (p:=ze5 p s) (λh=>h1 h.2.1)];simp only[zO,zbq hp,show((s.U.length:Int) !=p.g.length)=true by grind,zaO];rfl
 .rw[zbJ hp,zbJ (λh=>hp h.1)];rfl
def zic(p:zaQ)(s:zbu)(hs:Short s):cw 108 [.agg (zaU p),.agg (zbI s)] []=some (zat (dec (ze5 p s))):=by
 refine zKJ ?_;simp only[zCL,zas,zac];by_cases hp:zi4 p
 . by_cases h1:s.U.length=p.g.length
   . by_cases h2:s.v.length=p.g.length
     . simp only[zG,zbq hp,h1,h2,zaG];have hpl:=hp.2.2.1;rw[<-zhz (zDr h1 h2 hp)]
       have inner:∀(i:Nat) (hi:i<p.g.length) (y:AV×Mem),zmm p s ((i:Int)+1)=some y->(OkKeys p.g[i].O (s.U[i]'(by omega))->zg9 p s i 0=some y):=by
        intro i hi y hk hg;have hi1:i<s.U.length:=by omega
        have hlk:=hs _ (zau hi1);have hg':=zAS.2 hg;refine zbW s.U[i] (λj r=>zg9 p s i j=some y) ?_ ?_
        .refine zpr ?_;simp(disch:=omega) [zaH,zar,w64_id,hk]
        . intro j hj r hr ih;refine zpr ?_;obtain⟨g1,g2⟩:=hg' j hj;by_cases h0:0<j
          .have g3:=g2 h0;simp(disch:=omega) [zaB,zaH,zar,w64_id,zfX h0,ih]
          .simp(disch:=omega) [zaB,zaH,zar,w64_id,ih]
       have innerNo:∀(i:Nat) (hi:i<p.g.length),¬OkKeys p.g[i].O (s.U[i]'(by omega))->zg9 p s i 0=some (zat false):=by
        intro i hi hg;have hi1:i<s.U.length:=by omega
        have hlk:=hs _ (zau hi1);rw[<-zAS]at hg
        have hno:∀j (hj:j<s.U[i].length),¬((0<=s.U[i][j]/\s.U[i][j]<p.g[i].O)/\∀h:0<j,(s.U[i][j-1]'(by omega))<s.U[i][j])->zg9 p s i j=some (zat false):=by
         intro j hj hn;refine zpr ?_;by_cases g1:0<=s.U[i][j]/\s.U[i][j]<p.g[i].O
         . have h0:0<j:=by
            apply zfD
            rintro rfl
            exact hn ⟨g1,λh=>absurd h (by omega)⟩
           have g2:¬(s.U[i][j-1]<s.U[i][j]):=λh=>hn ⟨g1,λ_=>h⟩
           simp(disch:=omega) [zaB,zaH,zar,w64_id,zfX h0];rfl
         . by_cases g2:s.U[i][j]<0
           .simp(disch:=omega) [zaB,zar];rfl
           .simp(disch:=omega) [zaB,zaH,zar];rfl
        rcases zqg s.U[i].length (λj hj=>(0<=s.U[i][j]/\s.U[i][j]<p.g[i].O)/\∀h:0<j,(s.U[i][j-1]'(by omega))<s.U[i][j])
         (λj=>zg9 p s i j) (λy=>y=zat false) (zat false) (λh=>absurd h hg) (λj hj _ hn=>⟨_,rfl,hno j hj hn⟩) (λj hj y g hk=>by
          refine zpr ?_;obtain⟨g1,g2⟩:=g;by_cases h0:0<j
          .have g3:=g2 h0;simp(disch:=omega) [zaB,zaH,zar,w64_id,zfX h0,hk]
          .simp(disch:=omega) [zaB,zaH,zar,w64_id,hk])with⟨_,h⟩|⟨_,y,rfl,h⟩
        .exact h
        .exact h
       refine zlj p.g.length _ (λi=>zmm p s i) (λb=>zat b) ?_ ?_ ?_
       .exact ztb (by simp(disch:=omega)only[zH];rfl)
       . intro i hi hg;have hi2:i<s.v.length:=by omega
         refine ztb ?_;by_cases h4:(0<=s.v[i]/\s.v[i]<=2)
         . have h3:=λh=>hg ⟨h,h4⟩
           simp(disch:=omega) [zaB,zaH,zar,innerNo i hi h3]
         . by_cases h5:s.v[i]<0
           .simp(disch:=omega) [zaB,zar];rfl
           .simp(disch:=omega) [zaB,zaH,zar];rfl
       . intro i hi y hg hk';have hi2:i<s.v.length:=by omega
         have g2:=hg.2;refine ztb ?_;simp(disch:=omega) [zaB,zaH,zar,inner i hi y hk' hg.1]
     .rw[zbJ (p:=ze5 p s) (λh=>h2 h.2.2.1)];simp only[zG,zbq hp,h1,zaG,show((s.v.length:Int) !=p.g.length)=true by grind,zaO];rfl
   .rw[zbJ (p:=ze5 p s) (λh=>h1 h.2.1)];simp only[zO,zbq hp,show((s.U.length:Int) !=p.g.length)=true by grind,zaO];rfl
 .rw[zbJ hp,zbJ (λh=>hp h.1)];rfl
def zig(n:Int):cw 135 [I n] []=some (zat (dec (0<=n/\n<=31))):=by
 refine zF3 ?_;simp only[zeB,decide_eq_true_eq];split
 .rw[show decide (n<=31)=dec (0<=n/\n<=31)from zf1 (by simp_all)];rfl
 .rw[zbJ (by omega)];rfl
def zxG(n:Int):cw 181 [I n] []=some (zat (!dec (0<=n/\n<=31))):=
 zyz (by rw[zig,zas];rfl)
def zII(l:aC)(hl:l.length<=1000000):cw 180 [.sl 1 (List.map zah l),.fn 181 []] []=some (zat (!dec (∀n∈l,0<=n/\n<=31))):=by
 refine ztf ?_
 have key:∃r,cw 235 [.sl 1 (List.map zah l),.fn 181 []] []=some (zbv r)/\(0<=r↔¬∀n∈l,0<=n/\n<=31):=by
  have H:=zqg l.length (λj hj=>0<=l[j]/\l[j]<=31) (λi=>zhC l i) (λy=>∃r:Int,0<=r/\y=zbv r) (zbv (-1)) ?_ ?_ ?_
  . rcases H with⟨h1,h2⟩|⟨⟨j,hj,h1⟩,y,⟨r,h2,rfl⟩,h3⟩
    . refine⟨-1,zox h2,?_⟩;have:=(ztC (G:=λn=>0<=n/\n<=31)).1 h1
      simp_all
    .exact⟨r,zox h3,λ_ h=>h1 (h _ (zau hj)),λ_=>h2⟩
  .intro h;exact zjN (by simp(disch:=omega) [zaH]<;>rfl)
  .intro i hi _ hg;refine⟨_,⟨(i:Int),by omega,rfl⟩,zjN ?_⟩;simp(disch:=omega) [zaB,zar,zxG,zbJ hg];rfl
  .intro i hi y hg hk;refine zjN ?_;simp(disch:=omega) [zaB,zar,w64_id,zxG,zbq hg,hk]
 obtain⟨r,h1,h2⟩:=key;rw[h1,za7]
 rw[show decide (0<=r)=!dec (∀n∈l,0<=n/\n<=31)by
  by_cases hc:∀n∈l,0<=n/\n<=31
  .rw[zbq hc];simp_all
  .rw[zbJ hc];simp_all]
 rfl
def zov(m:zbh)(hl:m.u.length<=1000000):cw 133 [.agg (zbl m)] []=some (zat (dec (znO m))):=by
 refine zAy ?_;simp only[zeB,decide_eq_true_eq]
 repeat' split
 all_goals first
  |(rw[zbJ (by unfold znO;omega)];rfl)
  |(rw[zII _ hl,zas,Bool.not_not,zhz (p:=∀n∈m.u,0<=n/\n<=31) (q:=znO m) ⟨λh=>⟨by omega,by omega,by omega,by omega,h⟩,λh=>h.2.2.2.2⟩];rfl)
def zo8(l:aC)(hl:l.length<=1000000):cw 134 [.sl 1 (List.map zah l)] []=some (zat (dec (AscBy id l))):=by
 refine zHz ?_;by_cases h1:1<=l.length
 . have h:=all_from 1 l.length h1 (λj h1 hj=>l[j-1]<l[j]) (λi=>znd l i) (λb=>zat b) ?_ ?_ ?_
   .rw[show((1:Nat):Int)=1 from rfl]at h;rw[h];congr 2;rw[<-ztD];exact zhz ⟨λh i hi h0=>h i h0 hi,λh j h1 hj=>h j hj h1⟩
   .exact znj (by simp(disch:=omega) [zaH]<;>rfl)
   .intro i h0 hi hg;refine znj ?_;simp(disch:=omega) [zaB,zar,w64_id,zfX h0];rfl
   .intro i h0 hi y hg hk;refine znj ?_;simp(disch:=omega) [zaB,zaH,zar,w64_id,zfX h0,hk]
 .rw[zbq (p:=AscBy id l) (λj hj=>by omega)];exact znj (by simp(disch:=omega) [zaH]<;>rfl)
def zK6{l:aN}(hl:l.length<=16):(∀j (hj:j<l.length),(znO l[j]/\AscBy id l[j].u)/\∀h:0<j,(l[j-1]'(by omega)).ID<l[j].ID)↔zrX l:=by
 unfold zrX;rw[<-ztD,<-ztC]
 grind
def zIK(l:aN)(hs:∀m∈l,m.u.length<=1000000):∃e,cw 89 [.sl 5 (mI l)] []=some (zbv e)/\(e=0↔zrX l):=by
 by_cases hl:l.length<=16
 . have H:=all_err l.length (λj hj=>(znO l[j]/\AscBy id l[j].u)/\∀h:0<j,(l[j-1]'(by omega)).ID<l[j].ID) (λi=>zlr l i) (λe=>zbv e) ?_ ?_ ?_
   .obtain⟨e,h1,h2⟩:=H;exact⟨e,zzp (by simp(disch:=omega) [zaH,h1]),h2.trans (zK6 hl)⟩
   .exact zlz (by simp(disch:=omega) [zaH]<;>rfl)
   . intro i hi hg;have hp:=hs _ (zau hi);by_cases h1:znO l[i]
     . by_cases h2:AscBy id l[i].u
       . have h0:0<i:=by
          apply zfD
          rintro rfl
          exact hg ⟨⟨h1,h2⟩,λh=>absurd h (by omega)⟩
         have h3:¬(l[i-1].ID<l[i].ID):=λh=>hg ⟨⟨h1,h2⟩,λ_=>h⟩
         refine⟨43,by omega,zlz ?_⟩;simp(disch:=omega) [zaB,zar,w64_id,zfX h0,zov _ hp,zbq h1,zo8 _ hp,zbq h2];rfl
       .refine⟨43,by omega,zlz ?_⟩;simp(disch:=omega) [zaB,zar,zov _ hp,zbq h1,zo8 _ hp,zbJ h2];rfl
     .refine⟨2,by omega,zlz ?_⟩;simp(disch:=omega) [zaB,zar,zov _ hp,zbJ h1];rfl
   . intro i hi y hg hk;have hp:=hs _ (zau hi);obtain⟨⟨h1,h2⟩,h3⟩:=hg;refine zlz ?_;by_cases h0:0<i
     .have h4:=h3 h0;simp(disch:=omega) [zaB,zaH,zar,w64_id,zfX h0,zov _ hp,zbq h1,zo8 _ hp,zbq h2,hk]
     .simp(disch:=omega) [zaB,zaH,zar,w64_id,zov _ hp,zbq h1,zo8 _ hp,zbq h2,hk]
 .refine⟨3,zzp ?_,by omega,λh=>absurd h.1 hl⟩;simp(disch:=omega) [zaB];rfl
def zBx{l:aT}(hl:l.length<=60):(∀j (hj:j<l.length),znP l[j]/\∀h:0<j,(l[j-1]'(by omega)).j<l[j].j)↔zl1 l:=by
 unfold zl1;rw[<-ztD,<-ztC]
 grind
def zzj(l:aT):∃e,cw 90 [.sl 7 (mG l)] []=some (zbv e)/\(e=0↔zl1 l):=by
 by_cases hl:l.length<=60
 . have H:=all_err l.length (λj hj=>znP l[j]/\∀h:0<j,(l[j-1]'(by omega)).j<l[j].j) (λi=>zhH l i) (λe=>zbv e) ?_ ?_ ?_
   .obtain⟨e,h1,h2⟩:=H;exact⟨e,zr4 (by simp(disch:=omega) [zaH,h1]),h2.trans (zBx hl)⟩
   .exact zgD (by simp(disch:=omega) [zaH]<;>rfl)
   . intro i hi hg;by_cases h1:znP l[i]
     . have h0:0<i:=by
        apply zfD
        rintro rfl
        exact hg ⟨h1,λh=>absurd h (by omega)⟩
       have h3:¬(l[i-1].j<l[i].j):=λh=>hg ⟨h1,λ_=>h⟩
       refine⟨43,by omega,zgD ?_⟩;obtain⟨a1,a2,a3,a4,a5,a6⟩:=h1;simp(disch:=omega) [zaB,zaH,zar,w64_id,zfX h0,zig,zbq a1];rw[<-a5];simp;rfl
     . by_cases a1:0<=l[i].xa/\l[i].xa<=31
       . by_cases a2:(0<=l[i].y/\l[i].y<=9999)/\(0<=l[i].Q/\l[i].Q<=99)/\(0<=l[i].L/\l[i].L<=31)
         . refine⟨1,by omega,zgD ?_⟩;simp(disch:=omega) [zaB,zaH,zar,w64_id,zig,zbq a1];by_cases a3:l[i].j=l[i].xa*10000+l[i].y
           . have a4:12<(l[i].A.length:Int):=by apply Int.not_le.1;intro h;exact h1 ⟨a1,a2.1,a2.2.1,a2.2.2,a3,by omega⟩
             simp(disch:=omega) [a3,zaB];rfl
           .simp[show(l[i].j !=l[i].xa*10000+l[i].y)=true by simpa using a3];rfl
         . refine⟨2,by omega,zgD ?_⟩;simp(disch:=omega) [zaB,zar,zig,zbq a1];simp only[zeB,decide_eq_true_eq]
           repeat' split
           all_goals first
            |rfl
            |omega
       .refine⟨2,by omega,zgD ?_⟩;simp(disch:=omega) [zaB,zar,zig,zbJ a1];rfl
   . intro i hi y hg hk;obtain⟨h1,h3⟩:=hg;refine zgD ?_;obtain⟨a1,a2,a3,a4,a5,a6⟩:=h1;by_cases h0:0<i
     .have h4:=h3 h0;simp(disch:=omega) [zaB,zaH,zar,w64_id,zfX h0,zig,zbq a1,<-a5,hk]
     .simp(disch:=omega) [zaB,zaH,zar,w64_id,zig,zbq a1,<-a5,hk]
 .refine⟨3,zr4 ?_,by omega,λh=>absurd h.1 hl⟩;simp(disch:=omega) [zaB];rfl
def c_isScore(n:Int):cw 141 [I n] []=some (zat (dec (0<=n/\n<=200))):=by
 refine zEu ?_;simp only[zeB,decide_eq_true_eq];split
 .rw[show decide (n<=200)=dec (0<=n/\n<=200)from zf1 (by simp_all)];rfl
 .rw[zbJ (by omega)];rfl
def zsv(r:zbK)(h:OkMon r):cw 94 [.agg (zca r)] []=some (zbv 0):=by obtain⟨h1,h2,h3,h4⟩:=h;refine zHE ?_;simp(disch:=omega) [zaH,c_isScore,zbq h1,zbq h2];rfl
def zHf(l:aC)(n:Int)(hl:l.length<=1000000):cw 238 [.sl 1 (List.map zah l),I n] []=some (zat (dec (n∈l))):=by
 refine zvR ?_;have key:=ziS l (λx=>n==x) (λi=>ziZ l n i) (λo=>zbv (match o with|some (i,_)=>(i:Int)|none=>-1)) ?_ ?_ ?_
 . rw[zyE key,za7]
   cases hf:fnd (λx=>n==x) 0 l with
   |none=>rw[zbJ (λh=>by have:=ztV.1 hf n h;simp at this)];rfl
   |some q =>
     obtain⟨i,x⟩:=q;obtain⟨h1,h2,_⟩:=fnd_at hf;have:n=x:=by simpa using h2
     subst this;rw[zbq (zav h1)];show some (B (decide (0<=(i:Int))),[])=_;rw[show decide (0<=(i:Int))=true by simp];rfl
 .exact zlB (by simp(disch:=omega) [zaH]<;>rfl)
 .intro i hi h;refine zlB ?_;simp(disch:=omega) [zaB,zar,h];rfl
 .intro i hi y h hk;refine zlB ?_;simp(disch:=omega) [zaB,zar,w64_id,h,hk]
def zCH(x:GPart)(ks:aC)(v:Int)(hl:ks.length<=1000000):cw 185 [.agg (za8 x),.sl 1 (List.map zah ks),I v] []=some (zat (accB x ks v)):=by
 refine zGe ?_;unfold accB;by_cases h:ks=[]
 .rw[if_pos h,h];rfl
 . rw[if_neg h];have:((ks.length:Int)==0)=false:=by simpa using h
   simp only[zac,this,zay,zHf _ _ hl,zas];rfl
def kind2{x:GPart}(h:OkPart x):x.r=1\/x.r=2:=by unfold OkPart at h;omega
def zxE(p:zaQ)(s:zbu)(a:aC)(hs:Short s):∃r:List Int×Int,cw 138 [.agg (zaU p),.agg (zbI s),.sl 1 (List.map zah a)] []=some (zcW r)/\(r.2=0↔ze5 p s/\OkAns p a)/\(r.2=0->r.1=zhg p s a):=by
 by_cases hp:ze5 p s
 case neg=>refine⟨([],1),zsB ?_,by simp[hp],by simp⟩;simp only[zju p s hs,zas,zbJ hp];rfl
 obtain⟨hP,hk,hw,hall⟩:=id hp;have hpl:=hP.2.2.1;by_cases ha:a.length=p.g.length
 case neg=>refine⟨([],22),zsB ?_,by simp[OkAns,ha],by simp⟩;simp only[zO,zju p s hs,zas,zbq hp,zac,show((a.length:Int) !=p.g.length)=true by grind,zaO];rfl
 have start:∀y,zg0 p s a 0=some y->cw 138 [.agg (zaU p),.agg (zbI s),.sl 1 (List.map zah a)] []=some y:=by intro y hy;refine zsB ?_;simp only[zG,zju p s hs,zas,zbq hp,zaG,zac,ha,hy]
 have second:zg1 p s a (List.map zah (List.replicate p.g.length 0)) 0=some (zcW (zhg p s a,0)):=by
  rw[<-zGs p.g.length (zeh p s a) 0];have:=zbW p.g (λi r=>zg1 p s a (List.map zah (mkN p.g.length (zeh p s a) 0 i.toNat)) i=some (zcW (zhg p s a,0))) ?_ ?_
  .exact this
  .refine zvM ?_;simp(disch:=omega)only[za,zH,mkN_all,zb0,zdj,zcR,zhg.eq_1];rw[show List.take p.g.length (List.map zah (List.map (zeh p s a) (List.range p.g.length)))=List.map zah (List.map (zeh p s a) (List.range p.g.length))from zaz (by simp)];rfl
  . intro i hi r hr ih;have hi1:i<s.U.length:=by omega
    have hi2:i<a.length:=by omega
    have hkl:=hs _ (zau hi1);refine zvM ?_
    have hc:zeh p s a i=if p.g[i].r=1 then -2 else if accB p.g[i] s.U[i] a[i]=true then p.g[i].xb else if a[i]=-1 then -1 else 0:=by simp[zeh,hi,hi1,hi2]
    have e1:((i:Int)+1).toNat=i+1:=by omega
    rw[e1]at ih;have hgi:(mkN p.g.length (zeh p s a) 0 i)[i]?=some 0:=zzz hi;rcases kind2 (hP.2.2.2.1 _ (zau hi))with h1|h1
    .rw[if_pos h1]at hc;simp(disch:=omega) [zaB,zar,h1,w64_id,hgi,zf3,zwe hc.symm,-List.map_set,ih]
    . rw[iNQ]at hc
      cases hb:accB p.g[i] s.U[i] a[i]with
      |true=>rw[if_pos hb]at hc;simp(disch:=omega) [zaB,zar,h1,w64_id,hgi,zf3,zwe hc.symm,-List.map_set,ih,zCH _ _ _ hkl,hb]
      |false =>
        rw[if_neg (by rw[hb];simp)]at hc;by_cases h2:a[i]=-1
        .rw[if_pos h2]at hc;simp(disch:=omega) [zaB,zar,h1,w64_id,hgi,zf3,zwe hc.symm,-List.map_set,ih,zCH _ _ _ hkl,hb,<-h2];simp(disch:=omega) [h2,zf3,zwe hc.symm,-List.map_set,ih]
        .rw[if_neg h2]at hc;simp(disch:=omega) [zaB,zar,h1,w64_id,mkN_same hc,ih,zCH _ _ _ hkl,hb,show(a[i]==-1)=false by simpa using h2]
 have hfst:∀j (hj:j<p.g.length),(p.g[j].r≠1->-2<=a[j]'(by omega)/\a[j]'(by omega)<p.g[j].O)↔(p.g[j].r=2->-2<=a[j]'(by omega)/\a[j]'(by omega)<p.g[j].O):=by intro j hj;have:=kind2 (hP.2.2.2.1 _ (zau hj));omega
 have H:=zqg p.g.length (λj hj=>p.g[j].r≠1->-2<=a[j]'(by omega)/\a[j]'(by omega)<p.g[j].O) (λi=>zg0 p s a i) (λy=>y=zcW ([],2)) (zcW (zhg p s a,0)) ?_ ?_ ?_
 . rcases H with⟨h1,h2⟩|⟨⟨j,hj,h1⟩,y,rfl,h3⟩
   . refine⟨_,start _ h2,⟨λ_=>⟨hp,ha,λj x v q1 q2 q3=>?_⟩,λ_=>rfl⟩,λ_=>rfl⟩
     grind
   .refine⟨_,start _ h3,⟨λh=>by simp at h,λh=>?_⟩,λh=>by simp at h⟩;exact absurd (λq3=>h.2.2 j _ _ (zaa hj) (zaa (by omega)) q3) h1
 .intro _;refine zqX ?_;(try simp only[<-zwd]at second);simp(disch:=omega)only[za,zH,zbp,second]
 . intro i hi _ hn;have hi2:i<a.length:=by omega
   refine⟨_,rfl,zqX ?_⟩;rcases kind2 (hP.2.2.2.1 _ (zau hi))with h1|h1
   .omega
   . have h2:¬(-2<=a[i]/\a[i]<p.g[i].O):=λh=>hn (λ_=>h)
     have hop:2<=p.g[i].O:=by have:=(hP.2.2.2.1 _ (zau hi));unfold OkPart at this;omega
     have h3:a[i]≠-1:=λh=>h2 (by omega)
     have h4:a[i]≠-2:=λh=>h2 (by omega)
     by_cases h5:a[i]<0
     .simp(disch:=omega) [zaB,zar,h1,show(a[i] !=-1)=true by simpa using h3,show(a[i] !=-2)=true by simpa using h4];rfl
     .simp(disch:=omega) [zaB,zaH,zar,h1,show(a[i] !=-1)=true by simpa using h3,show(a[i] !=-2)=true by simpa using h4];rfl
 . intro i hi y hg hk';have hi2:i<a.length:=by omega
   refine zqX ?_;rcases kind2 (hP.2.2.2.1 _ (zau hi))with h1|h1
   .simp(disch:=omega) [zaB,zar,h1,w64_id,hk']
   . have h2:=hg (by omega);by_cases h3:a[i]=-1
     .simp(disch:=omega) [zaB,zar,h1,w64_id,h3,hk']
     . by_cases h4:a[i]=-2
       .simp(disch:=omega) [zaB,zar,h1,w64_id,h4,hk']
       .simp(disch:=omega) [zaB,zaH,zar,h1,show(a[i] !=-1)=true by simpa using h3,show(a[i] !=-2)=true by simpa using h4,w64_id,hk']
def zMR:zaY:=⟨0,0,0,0,0,[],[]⟩
def ixR:Option (Nat×zaQ)->Int×Bool
 |some (i,_)=>((i:Int),true)
 |none=>(0,false)
def scR:Option zaY->zaY×Bool
 |some x=>(x,true)
 |none=>(zMR,false)
def zAp(s:zam)(n:Int)(hl:s.c.length<=1000000):cw 186 [.agg (zap s),I n] []=some (zlg (scR (zf4 s.c n))):=by
 refine zC4 ?_;have key:=ziS s.c (λx=>x.j==n) (λi=>zkY s n i) (λo=>zlg (scR (o.map (·.2)))) ?_ ?_ ?_
 .exact key
 .exact zop (by simp(disch:=omega) [zaH]<;>rfl)
 .intro i hi h;refine zop ?_;simp(disch:=omega) [zaB,zar,h];rfl
 .intro i hi y h hk;refine zop ?_;simp(disch:=omega) [zaB,zar,w64_id,h,hk]
def ztE(l:aT)(n:Int)(hl:l.length<=1000000):cw 116 [.sl 7 (mG l),I n] []=some (zlg (scR (zf4 l n))):=by
 refine zI1 ?_;have key:=ziS l (λx=>x.j==n) (λi=>zn9 l n i) (λo=>zlg (scR (o.map (·.2)))) ?_ ?_ ?_
 .exact key
 .exact zrV (by simp(disch:=omega) [zaH]<;>rfl)
 .intro i hi h;refine zrV ?_;simp(disch:=omega) [zaB,zar,h];rfl
 .intro i hi y h hk;refine zrV ?_;simp(disch:=omega) [zaB,zar,w64_id,h,hk]
def zCI(s:zam)(x:zaY)(hl:s.u.length<=1000000):cw 137 [.agg (zap s),.agg (za0 x)] []=some (zje (ixR (zgB s.u x))):=by
 refine zEs ?_;have key:=ziS s.u (λp=>p.Y==x.xa&&p.L==x.L) (λi=>zjq s x i) (λo=>zje (ixR o)) ?_ ?_ ?_
 .exact key
 .exact zo6 (by simp(disch:=omega) [zaH]<;>rfl)
 .intro i hi h;refine zo6 ?_;rw[zaS]at h;simp(disch:=omega) [zaB,zar,h.1,h.2];rfl
 . intro i hi y h hk;refine zo6 ?_
   cases h1:(s.u[i].Y==x.xa)with
   |false=>simp(disch:=omega) [zaB,zar,w64_id,h1,hk]
   |true=>rw[h1,zcy]at h;simp(disch:=omega) [zaB,zar,w64_id,h1,h,hk]
def zu7(ps:List zaQ)(x:zaY)(hl:ps.length<=1000000):cw 109 [.sl 3 (mJ ps),.agg (za0 x)] []=some (zje (ixR (zgB ps x))):=by
 refine zKL ?_;have key:=ziS ps (λp=>p.Y==x.xa&&p.L==x.L) (λi=>zmp ps x i) (λo=>zje (ixR o)) ?_ ?_ ?_
 .exact key
 .exact ztc (by simp(disch:=omega) [zaH]<;>rfl)
 .intro i hi h;refine ztc ?_;rw[zaS]at h;simp(disch:=omega) [zaB,zar,h.1,h.2];rfl
 . intro i hi y h hk;refine ztc ?_
   cases h1:(ps[i].Y==x.xa)with
   |false=>simp(disch:=omega) [zaB,zar,w64_id,h1,hk]
   |true=>rw[h1,zcy]at h;simp(disch:=omega) [zaB,zar,w64_id,h1,h,hk]
def zCG(s:zam)(n:Int)(h1:s.c.length<=1000000)(h2:s.u.length<=1000000):cw 139 [.agg (zap s),I n] []=some (zje (ixR (zfA s n))):=by
 refine zEr ?_;rw[zAp s n h1,zin];unfold zfA
 cases zf4 s.c n with
 |none=>rfl
 |some x=>simp only[zO,scR,zCI s x h2,zgf,zae];rfl
def zLW(p:zaQ)(m:aC)(hl:p.g.length<=1000000)(h:znk p m):cw 140 [.agg (zaU p),.sl 1 (List.map zah m)] []=some (zat true):=by
 obtain⟨h1,h2⟩:=h;refine zAB ?_;simp only[zG,zac,h1];refine zbW p.g (λi r=>zjT p m i=some (zat true)) ?_ ?_
 .exact zri (by simp(disch:=omega) [zaH]<;>rfl)
 . intro i hi r hr ih;have hi2:i<m.length:=by omega
   have:=h2 i _ _ (zaa hi) (zaa hi2);refine zri ?_;simp(disch:=omega) [zaB,zaH,zar,w64_id,ih]
def zfb{ps:List zaQ}{x:zaY}{k:Nat}{p:zaQ}(hk:zgB ps x=some (k,p)):ps[k]?=some p/\p.Y=x.xa/\p.L=x.L:=by
 obtain⟨h1,h2,_⟩:=fnd_at hk
 simp_all
def zrc{l:aT}{n:Int}{x:zaY}(h:zf4 l n=some x):x∈l/\x.j=n:=by
 unfold zf4 at h
 cases hf:fnd (λx=>x.j==n) 0 l with
 |none=>simp[hf]at h
 |some q =>
   obtain⟨i,y⟩:=q;rw[hf]at h;simp only[zbk,zaj]at h;subst h;obtain⟨h1,h2,_⟩:=fnd_at hf
   grind
def zp3{l:aT}(h:AscBy zaY.j l){x:zaY}(hx:x∈l):zf4 l x.j=some x:=by
 obtain⟨i,hi,rfl⟩:=zbB.1 hx;unfold zf4
 rw[fnd_of (j:=i) (x:=l[i]) (zaa hi) (by simp) (λk y hk hy=>by
  obtain⟨hk',rfl⟩:=zao.1 hy;have:=asc_lt h k i hi hk
  grind)]
 rfl
def zvZ{s:zam}{n:Int}{k:Nat}{p:zaQ}(hk:zfA s n=some (k,p)):s.u[k]?=some p:=by
 unfold zfA at hk
 cases hx:zf4 s.c n with
 |none=>simp[hx]at hk
 |some x=>rw[hx]at hk;exact(zfb hk).1
section
variable{s:zam}(h:zb2 s)
include h
def zb2.okPaper{k:Nat}{p:zaQ}(hk:s.u[k]?=some p):zi4 p:=by have hlt:=(zao.1 hk).1;have:=h.len;exact(h.schemes k p _ hk (zaa (by omega))).1
def zKB:cw 91 [.agg (zap s)] []=some (zat true):=by
 have hp:=h.papers;have hl:=h.len;refine zzq ?_;simp(disch:=omega)only[zH,zG,hl];refine zbW s.u (λi r=>zjj s i=some (zat true)) ?_ ?_
 .exact zqO (by simp(disch:=omega) [zaH]<;>rfl)
 . intro i hi r hr ih;have hi2:i<s.V.length:=by omega
   have hv:=h.schemes i _ _ (zaa hi) (zaa hi2);refine zqO ?_;simp(disch:=omega) [zaB,zar,w64_id,zju _ _ (h.short _ (zau hi2)),zbq hv,ih]
def zIP:cw 92 [.agg (zap s)] []=some (zat true):=by
 have hp:=h.papers;have hl:=h.len;have hsl:=h.scripts.1;refine zyC ?_;refine zbW s.c (λi r=>ziW s i=some (zat true)) ?_ ?_
 .exact zqa (by simp(disch:=omega) [zaH]<;>rfl)
 .intro i hi r hr ih;obtain⟨k,p,c,q1,q2,q3⟩:=h.script _ (zau hi);have hpk:=(zfb q1).1;obtain⟨w,hw,hw1,hw2⟩:=zxE p c s.c[i].X (h.short _ (zav q2));have hw0:w.2=0:=hw1.2 ⟨h.schemes k p c hpk q2,q3⟩;refine zqa ?_;simp(disch:=omega) [zaB,zar,w64_id,zCI s _ (by omega),q1,ixR,hpk,q2,hw,hw0,ih]
def zLX:cw 93 [.agg (zap s)] []=some (zat true):=by
 have hp:=h.papers;have hl:=h.seeds;have hsl:=h.scripts.1;refine zAC ?_;simp(disch:=omega)only[zH];refine zbW s.E (λi r=>zjU s i=some (zat true)) ?_ ?_
 .exact zrj (by simp(disch:=omega) [zaH]<;>rfl)
 . intro i hi r hr ih;obtain⟨k,p,q1,q2⟩:=h.seed _ (zau hi);have hpk:=zvZ q1;have hpl:=(h.okPaper hpk).2.2.1
   have rest:ziG s i s.E[i]=some (zat true):=by refine zv7 ?_;simp(disch:=omega) [zar,w64_id,zCG s _ (by omega) (by omega),q1,ixR,hpk,zLW _ _ (by omega) q2,ih]
   refine zrj ?_;by_cases h0:0<i
   .have:=ztD.2 h.asc i hi h0;simp(disch:=omega) [zaB,zaH,zar,w64_id,zfX h0,rest]
   .simp(disch:=omega) [zaB,zaH,zar,rest]
def zo9:cw 53 [.agg (zap s)] []=some (zbv 0):=by obtain⟨e1,h1,h2⟩:=zIK s.k h.short2;obtain⟨e2,h3,h4⟩:=zzj s.c;have g1:=h2.2 h.markers;have g2:=h4.2 h.scripts;subst g1 g2;refine zHA ?_;simp only[zG,h1,h3,za7,za7,zKB h,zIP h,zLX h,zsv _ h.monitor,zas,zas,zas,za7,zaG];rfl
end
def DOk(d:zak):Prop:=0<=d.At/\d.L.length<=600
abbrev mD(d:zak):Mem:=[(1000,pJ d)]
def tmod_lt{a n:Int}(hn:0<n):-n<a.tmod n/\a.tmod n<n:=by have h1:=zfC a hn;refine⟨?_,h1⟩;have h2:=zfC (-a) hn;rw[Int.neg_tmod]at h2;omega
def c_Light(t:aC):cw 8 [.sl 1 (List.map zah t)] []=some (zat (decide ((t.length:Int)<=600))):=
 zL5 (by rw[zac];rfl)
def c_Roll(t:aC):cw 10 [.sl 1 (List.map zah t)] []=some (zyN ⟨t,0⟩):=zM3 rfl
def zdD(d:zak)(n:Int)(hd:DOk d)(hn:n<=4611686018427387904):∃(r:Int) (d':zak),cw 49 [.loc 1000 2 0 0,I n] (mD d)=some (zof (r,d'))/\0<=r/\(r<n\/r=0)/\DOk d':=by
 by_cases h1:(d.L.length:Int)<=d.At
 .refine⟨0,d,znU ?_,by omega,.inr rfl,hd⟩;simp(disch:=omega)only[zac,zaB];rfl
 by_cases h2:n<1
 .refine⟨0,d,znU ?_,by omega,.inr rfl,hd⟩;simp(disch:=omega)only[zH,zaB];rfl
 obtain⟨ha,hl⟩:=hd;have hlt:d.At.toNat<d.L.length:=by omega
 have hb:=tmod_lt (a:=d.L[d.At.toNat]) (n:=n) (by omega);have hd':DOk ⟨d.L,d.At+1⟩:=⟨by grind,hl⟩
 by_cases h3:(d.L[d.At.toNat]).tmod n<0
 .refine⟨(d.L[d.At.toNat]).tmod n+n,⟨d.L,d.At+1⟩,znU ?_,by omega,.inl (by omega),hd'⟩;simp(disch:=omega) [zaB,zaH,zar,hlt,w64_id];rfl
 .refine⟨(d.L[d.At.toNat]).tmod n,⟨d.L,d.At+1⟩,znU ?_,by omega,.inl (by omega),hd'⟩;simp(disch:=omega) [zaB,zaH,zar,hlt,w64_id];rfl
def zsu(d:zak)(n:Int)(hd:DOk d)(hn:n<=4611686018427387904):∃(r:Bool) (d':zak),cw 46 [.loc 1000 2 0 0,I n] (mD d)=some (zrQ (r,d'))/\DOk d':=by obtain⟨r,d',h,_,_,hd'⟩:=zdD d n hd hn;exact⟨_,d',zFY (by simp only[h,zbD];rfl),hd'⟩
def c_Pick(d:zak)(l:aC)(hd:DOk d)(hl:l≠[])(hl2:l.length<=1000):∃(r:Int) (d':zak),cw 51 [.loc 1000 2 0 0,.sl 1 (List.map zah l)] (mD d)=some (zof (r,d'))/\r∈l/\DOk d':=by
 obtain⟨r,d',h,h0,h1,hd'⟩:=zdD d l.length hd (by omega);have hpos:0<l.length:=zfR.2 hl;have hlt:r.toNat<l.length:=by omega
 refine⟨l[r.toNat],d',zF0 ?_,zau hlt,hd'⟩;simp(disch:=omega)only[zac,h,zbD,zar,zb6,zaa hlt,zae];rfl
def DPaper(p:zaQ):Prop:=p.g.length<=3/\1<=p.g.length/\(∀x∈p.g,OkPart x/\x.xb<=6)/\∃y,p.g[0]?=some y/\y.r=1/\3<=y.xb
def DPaper.ok{p:zaQ}(h:DPaper p)(h1:0<=p.Y/\p.Y<=31)(h2:0<=p.L/\p.L<4):zi4 p:=by obtain⟨a,b,c,_⟩:=h;refine⟨h1,h2,by omega,λx hx=>(c x hx).1,?_⟩;have:=(zDz (λx hx=>(c x hx).1)).2;omega
def zDP(d:zak)(a b:Int)(hd:DOk d):∃(p:zaQ) (d':zak),cw 86 [.loc 1000 2 0 0,I a,I b] (mD d)=some (zqW (p,d'))/\p.Y=a/\p.L=b/\DPaper p/\DOk d':=by
 obtain⟨n0,d0,e0,a0,b0,hd0⟩:=zdD d 4 hd (by omega);obtain⟨n1,d1,e1,a1,b1,hd1⟩:=zdD d0 3 hd0 (by omega);by_cases h1:0<n1
 . obtain⟨n2,d2,e2,a2,b2,hd2⟩:=zdD d1 2 hd1 (by omega);obtain⟨n3,d3,e3,a3,b3,hd3⟩:=zdD d2 4 hd2 (by omega);obtain⟨n4,d4,e4,a4,b4,hd4⟩:=zdD d3 2 hd3 (by omega)
   have start:∀y,zmT a b (n0,d0) (n2,d2) (n3,d3)=some y->cw 86 [.loc 1000 2 0 0,I a,I b] (mD d)=some y:=by intro y hy;refine zvB ?_;simp(disch:=omega)only[e0,e1,e2,e3,zbD,zaB,zar,zbp,hy]
   by_cases h4:0<n4
   . obtain⟨n5,d5,e5,a5,b5,hd5⟩:=zdD d4 4 hd4 (by omega);refine⟨⟨a,b,[⟨1,3+n0,0,0,0,0⟩,⟨2,1+n2,0,0,4,n3⟩,⟨1,2+n5,0,0,0,0⟩]⟩,d5,start _ (zrh ?_),rfl,rfl,⟨by simp,by simp,?_,_,rfl,rfl,by dsimp only;omega⟩,hd5⟩
     .simp(disch:=omega)only[e4,e5,zbD,zaB,zar,zbp,w64_id];rfl
     .intro x hx;simp only[zS]at hx;rcases hx with rfl|rfl|rfl<;>exact⟨by unfold OkPart;dsimp only;omega,by dsimp only;omega⟩
   . refine⟨⟨a,b,[⟨1,3+n0,0,0,0,0⟩,⟨2,1+n2,0,0,4,n3⟩]⟩,d4,start _ (zrh ?_),rfl,rfl,⟨by simp,by simp,?_,_,rfl,rfl,by dsimp only;omega⟩,hd4⟩
     .simp(disch:=omega)only[e4,zbD,zaH,zar,zbp,w64_id];rfl
     .intro x hx;simp only[zS]at hx;rcases hx with rfl|rfl<;>exact⟨by unfold OkPart;dsimp only;omega,by dsimp only;omega⟩
 . obtain⟨n4,d4,e4,a4,b4,hd4⟩:=zdD d1 2 hd1 (by omega)
   have start:∀y,zlq a b (n0,d0) (n1,d1)=some y->cw 86 [.loc 1000 2 0 0,I a,I b] (mD d)=some y:=by intro y hy;refine zvB ?_;simp(disch:=omega)only[e0,e1,zbD,zaH,hy]
   by_cases h4:0<n4
   . obtain⟨n5,d5,e5,a5,b5,hd5⟩:=zdD d4 4 hd4 (by omega);refine⟨⟨a,b,[⟨1,3+n0,0,0,0,0⟩,⟨1,2+n5,0,0,0,0⟩]⟩,d5,start _ (zp7 ?_),rfl,rfl,⟨by simp,by simp,?_,_,rfl,rfl,by dsimp only;omega⟩,hd5⟩
     .simp(disch:=omega)only[e4,e5,zbD,zaB,zar,zbp,w64_id];rfl
     .intro x hx;simp only[zS]at hx;rcases hx with rfl|rfl<;>exact⟨by unfold OkPart;dsimp only;omega,by dsimp only;omega⟩
   . refine⟨⟨a,b,[⟨1,3+n0,0,0,0,0⟩]⟩,d4,start _ (zp7 ?_),rfl,rfl,⟨by simp,by simp,?_,_,rfl,rfl,by dsimp only;omega⟩,hd4⟩
     .simp(disch:=omega)only[e4,zbD,zaH,zar,zbp,w64_id];rfl
     .intro x hx;simp only[zS]at hx;subst hx;exact⟨by unfold OkPart;dsimp only;omega,by dsimp only;omega⟩
def c_Scheme(d:zak)(p:zaQ)(hd:DOk d)(hp:DPaper p)(hok:zi4 p):∃(c:zbu) (d':zak),cw 87 [.loc 1000 2 0 0,.agg (zaU p)] (mD d)=some (zp1 (c,d'))/\ze5 p c/\Short c/\DOk d':=by
 have hl:=hp.1;have hl2:=hp.2.1;obtain⟨b,d0,e0,hd0⟩:=zsu d 6 hd (by omega)
 have good:∀W:List Int,W.length=p.g.length->(∀k∈W,0<=k/\k<=2)->ze5 p ⟨List.replicate p.g.length [],W⟩/\Short ⟨List.replicate p.g.length [],W⟩:=by
  intro W hW hk;refine⟨⟨hok,by simp,hW,λj x ks k q1 q2 q3=>⟨?_,hk k (zav q3)⟩⟩,?_⟩
  .have:=zav q2;rw[List.mem_replicate]at this;rw[this.2];exact⟨by simp,λj hj=>by simp at hj⟩
  . intro ks hks
    simp_all
 cases b with
 |true =>
   obtain⟨n1,d1,e1,a1,b1,hd1⟩:=zdD d0 p.g.length hd0 (by omega);obtain⟨n2,d2,e2,a2,b2,hd2⟩:=zdD d1 2 hd1 (by omega);have hlt:n1.toNat<p.g.length:=by omega
   obtain⟨g1,g2⟩:=good ((List.replicate p.g.length 0).set n1.toNat (1+n2)) (by simp) (by grind)
   refine⟨_,d2,zuw ?_,g1,g2,hd2⟩;have hlt':n1.toNat<(List.replicate p.g.length (0:Int)).length:=by simpa using hlt
   simp(disch:=omega)only[zK,e0,e1,e2,zeg,zbD,zaO,zaf,zb0,zaR,zwd zah,zb6,zaa hlt',zae];refine zxr ?_;simp(disch:=omega)only[zK,zaf,zb0,zaR,zfo,zaW,w64_id];rw[show List.take p.g.length (List.replicate p.g.length [AV.sl 1 []])=List.replicate p.g.length [AV.sl 1 []]from zaz (by simp),zaz (Nat.le_of_eq (by simp_all))];rw[show List.replicate p.g.length [AV.sl 1 []]=mU (List.replicate p.g.length [])by simp[zdt],show List.replicate p.g.length [I 0]=List.map zah (List.replicate p.g.length 0)by simp[zah],show[I (1+n2)]=zah (1+n2)from rfl,zf3];rfl
 |false =>
   obtain⟨g1,g2⟩:=good (List.replicate p.g.length 0) (by simp) (by simp_all)
   refine⟨_,d0,zuw ?_,g1,g2,hd0⟩;simp(disch:=omega)only[zK,e0,zeg,zay,zaf];refine zv4 ?_;simp(disch:=omega)only[zK,zaf,zb0,zaR,zaW];rw[show List.take p.g.length (List.replicate p.g.length [AV.sl 1 []])=List.replicate p.g.length [AV.sl 1 []]from zaz (by simp),zaz (Nat.le_of_eq (by simp_all))];rw[show List.replicate p.g.length [AV.sl 1 []]=mU (List.replicate p.g.length [])by simp[zdt],show List.replicate p.g.length [I 0]=List.map zah (List.replicate p.g.length 0)by simp[zah]];rfl
def zqd(ps:List zaQ):Prop:=1<=ps.length/\ps.length<=3/\(∀p∈ps,DPaper p/\(0<=p.Y/\p.Y<=1)/\(0<=p.L/\p.L<=1))/\∀p∈ps,∀q∈ps,p.Y=q.Y->p.L=q.L->p=q
def zxz(ps:List zaQ)(cs:List zbu):Prop:=∀(j:Nat) (p:zaQ) (c:zbu),ps[j]?=some p->cs[j]?=some c->ze5 p c/\Short c
def c_Papers(d:zak)(hd:DOk d):∃(ps:List zaQ) (cs:List zbu) (d':zak),cw 42 [.loc 1000 2 0 0] (mD d)=some (zkb ((ps,cs),d'))/\zqd ps/\cs.length=ps.length/\zxz ps cs/\DOk d':=by
 have loop:∀(ps:List zaQ),zqd ps->∀(d:zak),DOk d->∃(cs:List zbu) (d':zak),zfS (mJ ps) (mV []) d 0=some (zkb ((ps,cs),d'))/\cs.length=ps.length/\zxz ps cs/\DOk d':=by
  intro ps hps d hd;have hpl:=hps.2.1;refine zbW ps (λi r=>∀(cs:List zbu) (d:zak),(cs.length:Int)=i->zxz ps cs->DOk d->∃(cs':List zbu) (d':zak),zfS (mJ ps) (mV cs) d i=some (zkb ((ps,cs'),d'))/\cs'.length=ps.length/\zxz ps cs'/\DOk d') ?_ ?_ [] d (by simp) (by intro j p c _ h;simp at h) hd
  .intro cs d hcs hok hd;refine⟨cs,d,zs6 ?_,by omega,hok,hd⟩;simp(disch:=omega)only[zR,zH];rw[zaz (by simp),zaz (by simp)];rfl
  . intro i hi r hr ih cs d hcs hok hd;obtain⟨g1,g2,g3⟩:=hps.2.2.1 _ (zau hi);obtain⟨c,d1,e1,o1,o2,hd1⟩:=c_Scheme d ps[i] hd g1 (g1.ok (by omega) (by omega))
    obtain⟨cs',d',e2,o3,o4,hd'⟩:=ih (cs++[c]) d1 (by simp;omega) (by
     intro j p c' hp hc;by_cases hj:j<cs.length
     .rw[zdP hj]at hc;exact hok j p c' hp hc
     grind) hd1
    refine⟨cs',d',zs6 ?_,o3,o4,hd'⟩;simp(disch:=omega)only[zI,zbp,zaR,zeM,zaa hi,e1,zyp,zdL,e2]
 obtain⟨p0,d0,e0,a0,b0,g0,hd0⟩:=zDP d 0 0 hd;obtain⟨b,d1,e1,hd1⟩:=zsu d0 2 hd0 (by omega)
 cases b with
 |true =>
   obtain⟨p2,d2,e2,a2,b2,g2,hd2⟩:=zDP d1 0 1 hd1;obtain⟨b',d3,e3,hd3⟩:=zsu d2 2 hd2 (by omega)
   have start:∀y,zlR (p0,d0) (p2,d2)=some y->cw 42 [.loc 1000 2 0 0] (mD d)=some y:=by intro y hy;refine zuv ?_;simp(disch:=omega)only[e0,e1,e2,zr0,zeg,zaO,zar,zbp,hy]
   cases b' with
   |true =>
     obtain⟨p4,d4,e4,a4,b4,g4,hd4⟩:=zDP d3 1 0 hd3
     obtain⟨cs,d',e5,o3,o4,hd'⟩:=loop [p0,p2,p4] (by
      refine⟨by simp,by simp,?_,?_⟩<;>simp only[zS]
      .simp_all
      simp_all) d4 hd4
     refine⟨[p0,p2,p4],cs,d',start _ (zqN ?_),?_,o3,o4,hd'⟩
     .simp_all
     . refine⟨by simp,by simp,?_,?_⟩<;>simp only[zS]
       .simp_all
       simp_all
   |false =>
     have hP:zqd [p0,p2]:=by
      refine⟨by simp,by simp,?_,?_⟩<;>simp only[zS]
      .simp_all
      .simp_all
     obtain⟨cs,d',e5,o3,o4,hd'⟩:=loop [p0,p2] hP d3 hd3;refine⟨[p0,p2],cs,d',start _ (zqN ?_),hP,o3,o4,hd'⟩
     simp_all
 |false =>
   obtain⟨b',d3,e3,hd3⟩:=zsu d1 2 hd1 (by omega)
   have start:∀y,zkX (p0,d0) (false,d1)=some y->cw 42 [.loc 1000 2 0 0] (mD d)=some y:=by intro y hy;refine zuv ?_;simp(disch:=omega)only[e0,e1,zr0,zeg,zay,zar,zbp,hy]
   cases b' with
   |true =>
     obtain⟨p4,d4,e4,a4,b4,g4,hd4⟩:=zDP d3 1 0 hd3
     have hP:zqd [p0,p4]:=by
      refine⟨by simp,by simp,?_,?_⟩<;>simp only[zS]
      .simp_all
      .simp_all
     obtain⟨cs,d',e5,o3,o4,hd'⟩:=loop [p0,p4] hP d4 hd4;refine⟨[p0,p4],cs,d',start _ (zpp ?_),hP,o3,o4,hd'⟩
     simp_all
   |false =>
     have hP:zqd [p0]:=by
      refine⟨by simp,by simp,?_,?_⟩<;>simp only[zS]
      .simp_all
      .simp_all
     obtain⟨cs,d',e5,o3,o4,hd'⟩:=loop [p0] hP d3 hd3;refine⟨[p0],cs,d',start _ (zpp ?_),hP,o3,o4,hd'⟩
     simp_all
def DMarkers(l:aN):Prop:=2<=l.length/\l.length<=5/\zrX l/\(∀m∈l,m.u.length<=2)/\∀m∈l,m.ID<=15
def c_Markers(d:zak)(hd:DOk d):∃(l:aN) (d':zak),cw 43 [.loc 1000 2 0 0] (mD d)=some (zlK (l,d'))/\DMarkers l/\DOk d':=by
 have asc1:∀{l:aN} {m:zbh},AscBy zbh.ID l->(∀x∈l,x.ID<m.ID)->AscBy zbh.ID (l++[m]):=by
  intro l m h1 h2 j hj;simp at hj;by_cases h:j+1<l.length
  .rw[zf7 (by omega),zf7 h];exact h1 j h
  .simp_all
 have loop:∀(k:Nat) (l:aN) (d:zak) (id:Int),DOk d->0<=id->id<=3*l.length->l.length+k<=5->(∀m∈l,znO m/\AscBy _root_.id m.u)->AscBy zbh.ID l->(∀m∈l,m.ID<=id)->(∀m∈l,m.u.length<=2)->∃(l':aN) (d':zak),zkn (mI l) d id k=some (zlK (l',d'))/\(l'.length=l.length+k/\(∀m∈l',znO m/\AscBy _root_.id m.u)/\AscBy zbh.ID l'/\(∀m∈l',m.u.length<=2)/\∀m∈l',m.ID<=15)/\DOk d':=by
  intro k
  induction k with
  |zero=>intro l d id hd h0 h1 h2 h3 h4 h5 h6;refine⟨l,d,zsj ?_,⟨rfl,h3,h4,h6,λm hm=>by have:=h5 m hm;omega⟩,hd⟩;simp(disch:=omega)only[zaH,zbp];rfl
  |succ k ih =>
    intro l d id hd h0 h1 h2 h3 h4 h5 h6;obtain⟨n0,d0,e0,a0,b0,hd0⟩:=zdD d 3 hd (by omega);obtain⟨n1,d1,e1,a1,hd1⟩:=c_Pick d0 [-1,-1,1,2,3] hd0 (by simp) (by simp);obtain⟨n2,d2,e2,a2,hd2⟩:=c_Pick d1 [1,1,1,2,3] hd1 (by simp) (by simp);obtain⟨n3,d3,e3,a3,hd3⟩:=c_Pick d2 [3,2,6,0,1] hd2 (by simp) (by simp);obtain⟨n4,d4,e4,a4,b4,hd4⟩:=zdD d3 4 hd3 (by omega);have hlt:n4.toNat<([[0,1],[0],[1],[0,1]]:List (List Int)).length:=by simp;omega
    have hpapers:∀q∈([[0,1],[0],[1],[0,1]]:List (List Int)),(∀n∈q,0<=n/\n<=31)/\AscBy _root_.id q/\q.length<=2:=by
     intro q hq;simp only[zS]at hq
     have A:AscBy _root_.id ([0,1]:List Int):=λj hj=>by
      simp at hj
      grind
     rcases hq with rfl|rfl|rfl|rfl
     .simp_all
     .exact⟨by simp,λj hj=>by simp at hj,by simp⟩
     .exact⟨by simp,λj hj=>by simp at hj,by simp⟩
     .simp_all
    obtain⟨q1,q2,q3⟩:=hpapers _ (zau hlt);simp only[zS]at a1 a2 a3
    obtain⟨l',d',e5,o1,hd'⟩:=ih (l++[⟨id+(1+n0),n1,n2,n3,([[0,1],[0],[1],[0,1]]:List (List Int))[n4.toNat]⟩]) d4 (id+(1+n0)) hd4 (by omega) (by simp;omega) (by simp;omega)
     (by
      intro m hm;rcases zbo.1 hm with h|h
      .exact h3 m h
      . simp only[zcH]at h;subst h
        refine⟨⟨?_,?_,?_,?_,q1⟩,q2⟩<;>dsimp only<;>omega)
     (asc1 h4 (λx hx=>by grind))
     (by
      intro m hm;rcases zbo.1 hm with h|h
      .have:=h5 m h;omega
      simp_all)
     (by grind)
    refine⟨l',d',zsj ?_,⟨by grind,o1.2⟩,hd'⟩;have e6:w64 (((k+1:Nat):Int)-1)=(k:Int):=by rw[w6Q];omega
    simp(disch:=omega)only[zK,zaB,e0,e1,e2,e3,e4,zbD,zbD,w64_id,e6];rw[show([zdt [0,1],zdt [0],zdt [1],zdt [0,1]]:List (List AV))=mU [[0,1],[0],[1],[0,1]]from rfl,zK2,zaa hlt,zae]
    simp_all
 obtain⟨n,d0,e0,a0,b0,hd0⟩:=zdD d 4 hd (by omega);obtain⟨l',d',e1,⟨o1,o2,o3,o4,o5⟩,hd'⟩:=loop (2+n).toNat [] d0 0 hd0 (by omega) (by simp) (by simp;omega) (by simp) (λj hj=>by simp at hj) (by simp) (by simp);simp at o1;refine⟨l',d',zBX ?_,⟨by omega,by omega,⟨by omega,o2,o3⟩,o4,o5⟩,hd'⟩;simp only[e0,zbD];rw[w6Q]
 grind
def asc_snoc{α:Type}{f:α->Int}{l:List α}{m:α}(h1:AscBy f l)(h2:∀x∈l,f x<f m):AscBy f (l++[m]):=by
 intro j hj;simp at hj;by_cases h:j+1<l.length
 .rw[zf7 (by omega),zf7 h];exact h1 j h
 simp_all
def zrC(n:Int)(p:zaQ)(x:zaY):Prop:=
 x.xa=p.Y/\x.L=p.L/\x.j=p.Y*10000+x.y/\(1<=x.y/\x.y<=n)/\(1<=x.Q/\x.Q<=3)/\x.A.length=2/\(∀y∈x.A,0<=y/\y<=1000000)/\OkAns p x.X
def c_Script(d:zak)(p:zaQ)(c n:Int)(hd:DOk d)(hp:DPaper p)(h1:0<=p.Y/\p.Y<=31)(hc:1<=c/\c<=n)(hn:n<=9):∃(x:zaY) (d':zak),cw 88 [.loc 1000 2 0 0,.agg (zaU p),I c] (mD d)=some (zmC (x,d'))/\zrC n p x/\x.y=c/\DOk d':=by
 have hl:=hp.1;obtain⟨n0,d0,e0,a0,b0,hd0⟩:=zdD d 3 hd (by omega);obtain⟨n1,d1,e1,a1,b1,hd1⟩:=zdD d0 3 hd0 (by omega);have loop:=zbW p.g (λi r=>∀(a:aC) (d2:zak),(a.length:Int)=i->DOk d2->(∀(j:Nat) (x:GPart) (v:Int),p.g[j]?=some x->a[j]?=some v->x.r≠1->-2<=v/\v<x.O)->∃(x:zaY) (d':zak),ziV d p c (n0,d0) (n1,d1) (List.map zah a) d2 i=some (zmC (x,d'))/\zrC n p x/\x.y=c/\DOk d') ?_ ?_ [] d1 (by simp) hd1 (by simp_all)
 . obtain⟨x,d',e2,h⟩:=loop;refine⟨x,d',zC2 ?_,h⟩
   simp_all
 . intro a d2 ha hd2 hok;refine⟨⟨p.Y*10000+c,p.Y,c,1+n0,p.L,[100*c+p.Y,n1],a⟩,d2,zoo ?_,?_,rfl,hd2⟩
   .simp(disch:=omega)only[zR,zH,w64_id];rw[zaz (by simp),zaz (by simp)];rfl
   . refine⟨rfl,rfl,rfl,hc,by dsimp only;omega,rfl,?_,by dsimp only;omega,hok⟩
     grind
 . intro i hi r hr ih a d2 ha hd2 hok;obtain⟨hx,_⟩:=hp.2.2.1 _ (zau hi)
   have snoc:∀v:Int,(p.g[i].r≠1->-2<=v/\v<p.g[i].O)->∀(j:Nat) (x:GPart) (w:Int),p.g[j]?=some x->(a++[v])[j]?=some w->x.r≠1->-2<=w/\w<x.O:=by
    intro v hv j x w hj hw;by_cases hja:j<a.length
    .grind
    .grind
   rcases kind2 hx with hk|hk
   .obtain⟨x,d',e2,h⟩:=ih (a++[-1]) d2 (by simp;omega) hd2 (snoc _ (λh=>absurd hk h));refine⟨x,d',zoo ?_,h⟩;simp(disch:=omega)only[zI,zbp,zen,zaa hi,show(p.g[i].r==2)=false by rw[hk];rfl,zay,zdL zah,e2]
   . obtain⟨v,d3,e3,hv,hd3⟩:=c_Pick d2 [p.g[i].xp,0,1,-1,-2] hd2 (by simp) (by simp)
     have hv':-2<=v/\v<p.g[i].O:=by unfold OkPart at hx;simp only[zS]at hv;omega
     obtain⟨x,d',e2,h⟩:=ih (a++[v]) d3 (by simp;omega) hd3 (snoc _ (λ_=>hv'));refine⟨x,d',zoo ?_,h⟩;simp(disch:=omega)only[zI,zbp,zen,zaa hi,show(p.g[i].r==2)=true by rw[hk];rfl,zaO,e3,zbD,zdL zah,e2]
def zz1(n:Int)(ps:List zaQ)(l:aT):Prop:=(∀x∈l,∃p∈ps,zrC n p x)/\AscBy zaY.j l/\(l.length:Int)<=2*n
def c_Scripts(d:zak)(ps:List zaQ)(n:Int)(hd:DOk d)(hps:zqd ps)(hn:0<=n/\n<=9):∃(l:aT) (d':zak),cw 44 [.loc 1000 2 0 0,.sl 3 (mJ ps),I n] (mD d)=some (zlL (l,d'))/\zz1 n ps l/\DOk d':=by
 have hpl:=hps.2.1
 let Inv:Int->List zaY->Prop:=λcode l=>(∀x∈l,(∃p∈ps,zrC n p x)/\x.j<code*10000)/\AscBy zaY.j l/\(l.length:Int)<=code*n
 let Res:Option (AV×Mem)->Prop:=λo=>∃(l:aT) (d':zak),o=some (zlL (l,d'))/\zz1 n ps l/\DOk d'
 have stage2:∀(out:aT) (d:zak),Inv 2 out->DOk d->Res (zgl ps n (mG out) d 2):=by intro out d hi hd;refine⟨out,d,zsk ?_,⟨λx hx=>(hi.1 x hx).1,hi.2.1,hi.2.2⟩,hd⟩;simp(disch:=omega)only[zaH,zbp];rfl
 have step:∀(code:Int),0<=code->code<=1->(∀(out:aT) (d:zak),Inv (code+1) out->DOk d->Res (zgl ps n (mG out) d (code+1)))->∀(out:aT) (d:zak),Inv code out->DOk d->Res (zgl ps n (mG out) d code):=by
  intro code hc0 hc1 next out d hi hd
  have third:∀(l:List zaQ),(∀p∈l,p∈ps/\p.Y=code)->l.length<=3->∀(m:Nat) (c:Int) (out:aT) (d:zak),c+m=n+1->1<=c->(∀x∈out,(∃p∈ps,zrC n p x)/\x.j<code*10000+c)->AscBy zaY.j out->(out.length:Int)<=code*n+(c-1)->DOk d->Res (ziv ps n code (mJ l) (mG out) d c):=by
   intro l hl hll m
   induction m with
   |zero =>
     intro c out d hc h1 g1 g2 g3 hd;obtain⟨l',d',e1,h⟩:=next out d ⟨λx hx=>⟨(g1 x hx).1,by grind⟩,g2,by grind⟩ hd
     refine⟨l',d',zkv ?_,h⟩;simp(disch:=omega)only[zaH,w64_id,e1]
   |succ m ih =>
     intro c out d hc h1 g1 g2 g3 hd;have hcn:code*n<=9:=by rcases(by omega:code=0\/code=1)with h|h<;>rw[h]<;>omega
     have hol:out.length<=20:=by omega
     by_cases hlz:0<l.length
     . obtain⟨n0,d0,e0,a0,b0,hd0⟩:=zdD d 5 hd (by omega);by_cases h0:0<n0
       . obtain⟨n1,d1,e1,a1,b1,hd1⟩:=zdD d0 l.length hd0 (by omega);have hlt:n1.toNat<l.length:=by omega
         obtain⟨hp1,hp2⟩:=hl _ (zau hlt);obtain⟨q1,q2,q3⟩:=hps.2.2.1 _ hp1;obtain⟨x,d2,e2,hx,hxc,hd2⟩:=c_Script d1 l[n1.toNat] c n hd1 q1 (by omega) (by omega) hn.2;have hxn:=hx.2.2.1
         obtain⟨l',d',e3,h⟩:=ih (c+1) (out++[x]) d2 (by omega) (by omega)
          (by
           intro y hy;rcases zbo.1 hy with hy|hy
           .grind
           grind)
          (asc_snoc g2 (λy hy=>by simp_all))
          (by simp;omega) hd2
         refine⟨l',d',zkv ?_,h⟩;simp(disch:=omega)only[zX,zK,zaB,e0,zbD,e1,zaR,zeM,zaa hlt,e2,zyq,zdL za0,e3]
       .obtain⟨l',d',e3,h⟩:=ih (c+1) out d0 (by omega) (by omega) (λy hy=>⟨(g1 y hy).1,by grind⟩) g2 (by omega) hd0;refine⟨l',d',zkv ?_,h⟩;simp(disch:=omega)only[zH,zaB,e0,zbD,w64_id,e3]
     . obtain⟨l',d',e1,h⟩:=next out d ⟨λx hx=>⟨(g1 x hx).1,by grind⟩,g2,by grind⟩ hd
       refine⟨l',d',zkv ?_,h⟩;simp(disch:=omega)only[zH,zaB,w64_id,e1]
  have second:=zbW ps (λi r=>∀l:List zaQ,(∀p∈l,p∈ps/\p.Y=code)->(l.length:Int)<=i->Res (ziu ps n (mG out) d code (mJ l) i)) ?_ ?_ [] (by simp) (by simp)
  .obtain⟨l',d',e1,h⟩:=second;refine⟨l',d',zsk ?_,h⟩;simp(disch:=omega)only[zaB];exact e1
  . intro l hl hll;obtain⟨l',d',e1,h⟩:=third l hl (by omega) n.toNat 1 out d (by omega) (by omega) (λx hx=>⟨(hi.1 x hx).1,by grind⟩) hi.2.1 (by have:=hi.2.2;omega) hd;refine⟨l',d',znD ?_,h⟩
    simp_all
  . intro i hi' r hr ih l hl hll;by_cases hcode:ps[i].Y=code
    . obtain⟨l',d',e1,h⟩:=ih (l++[ps[i]]) (by grind) (by simp;omega)
      refine⟨l',d',znD ?_,h⟩;simp(disch:=omega)only[zI,zbp,zeM,zaa hi',show(ps[i].Y==code)=true by simpa using hcode,zaO,zdL zaU,e1]
    .obtain⟨l',d',e1,h⟩:=ih l hl (by omega);refine⟨l',d',znD ?_,h⟩;simp(disch:=omega)only[zI,zbp,zeM,zaa hi',show(ps[i].Y==code)=false by simpa using hcode,zay,e1]
 have stage1:=step 1 (by omega) (by omega) stage2;have stage0:=step 0 (by omega) (by omega) stage1;obtain⟨l,d',e1,h⟩:=stage0 [] d ⟨by simp,λj hj=>by simp at hj,by simp⟩ hd;exact⟨l,d',zBZ e1,h⟩
def zHe:zaQ:=⟨0,0,[]⟩
def zAn(ps:List zaQ)(x:zaY)(hl:ps.length<=1000000):cw 48 [.sl 3 (mJ ps),.agg (za0 x)] []=some (zs1 (((zgB ps x).map (·.2)).getD zHe)):=by
 refine zL6 ?_;have key:=ziS ps (λp=>p.Y==x.xa&&p.L==x.L) (λi=>znt ps x i) (λo=>zs1 ((o.map (·.2)).getD zHe)) ?_ ?_ ?_
 .exact key
 .exact zua (by simp(disch:=omega) [zaH]<;>rfl)
 .intro i hi h;refine zua ?_;rw[zaS]at h;simp(disch:=omega) [zaB,zar,h.1,h.2];rfl
 . intro i hi y h hk;refine zua ?_
   cases h1:(ps[i].Y==x.xa)with
   |false=>simp(disch:=omega) [zaB,zar,w64_id,h1,hk]
   |true=>rw[h1,zcy]at h;simp(disch:=omega) [zaB,zar,w64_id,h1,h,hk]
def c_Seed(d:zak)(ps:List zaQ)(x:zaY)(k:Nat)(p:zaQ)(hd:DOk d)(hps:ps.length<=1000000)(hk:zgB ps x=some (k,p))(hp:DPaper p):∃(y:GSeed) (d':zak),cw 47 [.loc 1000 2 0 0,.sl 3 (mJ ps),.agg (za0 x)] (mD d)=some (zog (y,d'))/\y.h=x.j/\znk p y.T/\DOk d':=by
 have hl:=hp.1;have loop:=zbW p.g (λi r=>∀(a:aC) (d2:zak),(a.length:Int)=i->DOk d2->(∀(j:Nat) (x:GPart) (v:Int),p.g[j]?=some x->a[j]?=some v->0<=v/\v<=x.xb)->∃(y:GSeed) (d':zak),zmk x p (List.map zah a) d2 i=some (zog (y,d'))/\y.h=x.j/\znk p y.T/\DOk d') ?_ ?_ [] d (by simp) hd (by simp_all)
 .obtain⟨y,d',e2,h⟩:=loop;refine⟨y,d',zF2 ?_,h⟩;simp only[zAn ps x hps,hk,znS];exact e2
 .intro a d2 ha hd2 hok;refine⟨⟨x.j,a⟩,d2,zuR ?_,rfl,⟨by dsimp only;omega,hok⟩,hd2⟩;simp(disch:=omega)only[zR,zH,w64_id];rw[zaz (by simp)];rfl
 . intro i hi r hr ih a d2 ha hd2 hok;obtain⟨hx,hx2⟩:=hp.2.2.1 _ (zau hi);have hm:=hx.1;obtain⟨v,d3,e3,a3,b3,hd3⟩:=zdD d2 (p.g[i].xb+1) hd2 (by omega)
   obtain⟨y,d',e2,h⟩:=ih (a++[v]) d3 (by simp;omega) hd3 (by grind)
   refine⟨y,d',zuR ?_,h⟩;simp(disch:=omega)only[zI,zbp,zen,zaa hi,e3,zbD,zdL zah,e2]
def c_Monitor(d:zak)(hd:DOk d):∃(r:zbK) (d':zak),cw 45 [.loc 1000 2 0 0] (mD d)=some (zo3 (r,d'))/\OkMon r/\DOk d':=by obtain⟨n0,d0,e0,a0,b0,hd0⟩:=zdD d 3 hd (by omega);obtain⟨n1,d1,e1,a1,b1,hd1⟩:=zdD d0 2 hd0 (by omega);obtain⟨n2,d2,e2,a2,b2,hd2⟩:=zdD d1 3 hd1 (by omega);obtain⟨n3,d3,e3,a3,b3,hd3⟩:=zdD d2 (1+n0) hd2 (by omega);refine⟨⟨n1,n2,1+n0,1+n3⟩,d3,zBY ?_,by refine⟨?_,?_,?_,?_⟩<;>dsimp only<;>omega,hd3⟩;simp(disch:=omega)only[e0,e1,e2,zbD,w64_id,e3];rfl
structure DSetup(s:zam):Prop where
 ok:zb2 s
 papers:zqd s.u
 markers:DMarkers s.k
 scripts:zz1 4 s.u s.c
def zAU{ps:List zaQ}(hps:zqd ps){n:Int}{p:zaQ}{x:zaY}(hp:p∈ps)(hx:zrC n p x):∃k,zgB ps x=some (k,p):=by
 unfold zgB
 cases hf:fnd (λp=>p.Y==x.xa&&p.L==x.L) 0 ps with
 |none=>have:=ztV.1 hf p hp;rw[hx.1,hx.2.1]at this;simp at this
 |some q =>
   obtain⟨k,p'⟩:=q;obtain⟨h1,h2,_⟩:=fnd_at hf;simp only[zY]at h2;have:=hps.2.2.2 p' (zav h1) p hp (by rw[h2.1,hx.1]) (by rw[h2.2,hx.2.1])
   simp_all
def scripts_ok{n:Int}(hn:n<=9){ps:List zaQ}(hps:zqd ps){l:aT}(h:zz1 n ps l):zl1 l:=by refine⟨by have:=h.2.2;omega,λx hx=>?_,h.2.1⟩;obtain⟨p,hp,a,b,c,d,e,f,_⟩:=h.1 x hx;obtain⟨q1,q2,q3⟩:=hps.2.2.1 p hp;exact⟨by omega,by omega,by omega,by omega,by rw[c,a],by omega⟩
def c_Setup(d:zak)(hd:DOk d):∃(s:zam) (d':zak),cw 11 [.loc 1000 2 0 0] (mD d)=some (znh (s,d'))/\DSetup s/\DOk d':=by
 obtain⟨ps,cs,d0,e0,o0,p0,q0,hd0⟩:=c_Papers d hd;obtain⟨ms,d1,e1,o1,hd1⟩:=c_Markers d0 hd0;obtain⟨xs,d2,e2,o2,hd2⟩:=c_Scripts d1 ps 4 hd1 o0 (by omega);obtain⟨mr,d3,e3,o3,hd3⟩:=c_Monitor d2 hd2;have hxl:=o2.2.2;have hpl:=o0.2.1;have hxs:=scripts_ok (by omega) o0 o2;have loop:=zbW xs (λi r=>∀(sd:List GSeed) (d4:zak),(sd.length:Int)<=i->DOk d4->AscBy GSeed.h sd->(∀y∈sd,∀x∈r,y.h<x.j)->(∀y∈sd,∃x∈xs,∃k p,y.h=x.j/\zgB ps x=some (k,p)/\znk p y.T)->∃(s:zam) (d':zak),zjp ((ps,cs),d0) (ms,d1) (xs,d2) (mr,d3) (mO sd) d4 i=some (znh (s,d'))/\DSetup s/\DOk d') ?_ ?_ [] d3 (by simp) hd3 (λj hj=>by simp at hj) (by simp) (by simp)
 . obtain⟨s,d',e4,h⟩:=loop;refine⟨s,d',zEp ?_,h⟩
   simp_all
 . intro sd d4 hl hd4 ha _ hs;refine⟨⟨ms,xs,ps,cs,sd,mr⟩,d4,zo5 ?_,?_,hd4⟩
   .simp(disch:=omega)only[zR,zH];rw[zaz (by simp),zaz (by simp),zaz (by simp)];rfl
   . refine⟨⟨o1.2.2.1,hxs,by dsimp only;omega,p0,λj p c hp hc=>(q0 j p c hp hc).1,λx hx=>?_,by dsimp only;omega,ha,λy hy=>?_,o3,λc hc=>?_,λm hm=>by have:=o1.2.2.2.1 m hm;omega⟩,o0,o1,o2⟩
     .obtain⟨p,hp,hxp⟩:=o2.1 x hx;obtain⟨k,hk⟩:=zAU o0 hp hxp;have hpk:=(zfb hk).1;have hlt:=(zao.1 hpk).1;exact⟨k,p,cs[k]'(show k<cs.length by omega),hk,zaa _,hxp.2.2.2.2.2.2.2⟩
     .obtain⟨x,hx,k,p,h1,h2,h3⟩:=hs y hy;refine⟨k,p,?_,h3⟩;unfold zfA;dsimp only;rw[h1,zp3 hxs.2.2 hx];exact h2
     .obtain⟨j,hj,rfl⟩:=zbB.1 hc;exact(q0 j _ _ (zaa (by simp only at hj;omega)) (zaa hj)).2
 . intro i hi r hr ih sd d4 hl hd4 ha hlt hs;obtain⟨b,d5,e5,hd5⟩:=zsu d4 3 hd4 (by omega)
   have hrm:∀x∈r,x∈xs/\xs[i].j<x.j:=by intro x hx;rw[<-hr]at hx;obtain⟨j,hj,rfl⟩:=zbB.1 hx;rw[List.getElem_drop];exact⟨zau _,asc_lt hxs.2.2 i _ _ (by omega)⟩
   cases b with
   |false=>obtain⟨s,d',e4,h⟩:=ih sd d5 (by omega) hd5 ha (λy hy x hx=>hlt y hy x (by simp[hx])) hs;refine⟨s,d',zo5 ?_,h⟩;simp(disch:=omega)only[zac,zaB,e5,zeg,zay,w64_id,e4]
   |true =>
     obtain⟨p,hp,hxp⟩:=o2.1 _ (zau hi);obtain⟨k,hk⟩:=zAU o0 hp hxp;obtain⟨y,d6,e6,h1,h2,hd6⟩:=c_Seed d5 ps xs[i] k p hd5 (by omega) hk (o0.2.2.1 p hp).1
     obtain⟨s,d',e4,h⟩:=ih (sd++[y]) d6 (by simp;omega) hd6 (asc_snoc ha (λz hz=>by simp_all))
      (by grind)
      (by grind)
     refine⟨s,d',zo5 ?_,h⟩;simp(disch:=omega)only[zI,e5,zeg,zaO,zbp,zaR,zeC,zaa hi,e6,zAs,zdL zcL,e4]
def Sat{β:Type}(Q:β->Prop)(o:Option β):Prop:=∃y,o=some y/\Q y
def sat_of{β:Type}{Q:β->Prop}{a b:Option β}(h:∀y,a=some y->b=some y)(ha:Sat Q a):Sat Q b:=by obtain⟨y,e,hq⟩:=ha;exact⟨y,h y e,hq⟩
def zrT{β:Type}{Q:β->Prop}{y:β}(h:Q y):Sat Q (some y):=⟨y,rfl,h⟩
def ofScript{s:zam}(hs:DSetup s){x:zaY}(hx:x∈s.c):∃k p,zgB s.u x=some (k,p)/\p∈s.u/\zrC 4 p x/\DPaper p:=by obtain⟨p,hp,h⟩:=hs.scripts.1 x hx;obtain⟨k,hk⟩:=zAU hs.papers hp h;exact⟨k,p,hk,hp,h,(hs.papers.2.2.1 p hp).1⟩
def c_Mark(d:zak)(s:zam)(a b:Int)(hd:DOk d)(hs:DSetup s):∃(e:zad) (d':zak),cw 50 [.loc 1000 2 0 0,.agg (zap s),I a,I b] (mD d)=some (zrR (e,d'))/\(e.A.length<=12/\e.r=0)/\DOk d':=by
 have hm:=hs.markers;have hsl:=hs.scripts.2.2;have hpl:=hs.papers.2.1;obtain⟨n0,d0,e0,a0,b0,hd0⟩:=zdD d s.k.length hd (by have:=hm.2.1;omega);have hlt:n0.toNat<s.k.length:=by have:=hm.1;omega
 by_cases hz:s.c.length=0
 .refine⟨⟨⟨b,s.k[n0.toNat].ID,a⟩,0,0,0,0,0,[]⟩,d0,zrD ?_,⟨by simp,rfl⟩,hd0⟩;simp(disch:=omega)only[zZ,zK,e0,zbD,ze0,zaa hlt,zae,hz,Int.ofNat_zero,zkQ,zaR,zaW];rfl
 . obtain⟨n1,d1,e1,a1,b1,hd1⟩:=zdD d0 s.c.length hd0 (by omega);have hl1:n1.toNat<s.c.length:=by omega
   obtain⟨k,p,hk,hp,hx,hdp⟩:=ofScript hs (zau hl1);have hpp:=hdp.1;have hpq:=hdp.2.1;have hpg:=hx.2.2.2.2.2.1;obtain⟨n2,d2,e2,a2,b2,hd2⟩:=zdD d1 p.g.length hd1 (by omega);have hl2:n2.toNat<p.g.length:=by omega
   have hx2:=(hdp.2.2.1 _ (zau hl2)).1.1;obtain⟨n3,d3,e3,a3,b3,hd3⟩:=zdD d2 (p.g[n2.toNat].xb+2) hd2 (by omega);obtain⟨v,d4,e4,hd4⟩:=zsu d3 12 hd3 (by omega);have hz':((s.c.length:Int)==0)=false:=by simp;intro h;exact hz (by simpa using h)
   cases v with
   |true=>refine⟨⟨⟨b,s.k[n0.toNat].ID,a⟩,0,s.c[n1.toNat].j,n2,n3-1,0,[]⟩,d4,zrD ?_,⟨by simp,rfl⟩,hd4⟩;simp(disch:=omega)only[zX,zac,e0,zbD,zar,ze0,zaa hlt,hz',zay,e1,zeC,zaa hl1,zAn s.u _ (show s.u.length<=1000000 by omega),hk,zbk,zbO,znS,e2,zen,zaa hl2,e3,e4,zeg,zaO];exact zzP (by simp(disch:=omega)only[zR,w64_id];rfl)
   |false =>
     refine⟨⟨⟨b,s.k[n0.toNat].ID,a⟩,0,s.c[n1.toNat].j,n2,n3-1,0,s.c[n1.toNat].A⟩,d4,zrD ?_,⟨by dsimp only;omega,rfl⟩,hd4⟩;simp(disch:=omega)only[zX,zac,e0,zbD,zar,ze0,zaa hlt,hz',zay,e1,zeC,zaa hl1,zAn s.u _ (show s.u.length<=1000000 by omega),hk,zbk,zbO,znS,e2,zen,zaa hl2,e3,e4,zeg,zay]
     exact zxq (by
      simp(disch:=omega)only[zR,zac,w64_id];rw[zaz (by simp)]
      rfl)
def EvK(e:zad):Prop:=e.A.length<=12/\(e.r=0\/e.a.B<1000)
set_option maxRecDepth 20000 in
def c_EventsK(d:zak)(s:zam)(n:Int)(hd:DOk d)(hs:DSetup s)(hn:0<=n/\n<=50):∃(l:aA) (d':zak),cw 13 [.loc 1000 2 0 0,.agg (zap s),I n] (mD d)=some (zhs (l,d'))/\(l.length:Int)<=n/\(∀e∈l,EvK e)/\DOk d':=by
 have hm:=hs.markers;have hm1:=hm.1;have hm2:=hm.2.1;have hsl:=hs.scripts.2.2
 let Q:AV×Mem->Prop:=λy=>∃(l:aA) (d':zak),y=zhs (l,d')/\(l.length:Int)<=n/\(∀e∈l,EvK e)/\DOk d'
 have loop:∀(m:Nat) (i:Int) (out:aA) (d:zak),i+m=n->0<=i->(out.length:Int)<=i->(∀e∈out,EvK e)->DOk d->Sat Q (zdC s n (mA out) d i):=by
  intro m
  induction m with
  |zero=>intro i out d hi h0 hl hp hd;refine sat_of (λy=>zs5) ?_;simp(disch:=omega)only[zaH,zbp];exact zrT ⟨out,d,rfl,by omega,hp,hd⟩
  |succ m ih =>
    intro i out d hi h0 hl hp hd;have stay:∀d',DOk d'->Sat Q (zdC s n (mA out) d' (i+1)):=λd' hd'=>ih (i+1) out d' (by omega) (by omega) (by omega) hp hd'
    have more:∀e d',EvK e->DOk d'->Sat Q (zdC s n (mA (out++[e])) d' (i+1)):=λe d' he hd' =>
     ih (i+1) (out++[e]) d' (by omega) (by omega) (by simp;omega) (by grind) hd'
    obtain⟨n0,d0,e0,a0,b0,hd0⟩:=zdD d 20 hd (by omega);obtain⟨n1,d1,e1,a1,b1,hd1⟩:=zdD d0 14 hd0 (by omega);refine sat_of (λy=>zs5) ?_;by_cases c0:n1=0
    . obtain⟨n2,d2,e2,a2,b2,hd2⟩:=zdD d1 s.k.length hd1 (by omega);have hlt:n2.toNat<s.k.length:=by omega
      simp only[eq_self,zbp];simp(disch:=omega)only[zX,zK,zaB,e0,zbD,e1,show(n1==0)=true by simpa using c0,zaO,e2,ze0,zaa hlt];simp only[zdL zab];exact more _ _ ⟨by simp,.inr (show i<1000 by omega)⟩ hd2
    . by_cases c1:n1=1
      . by_cases hz:0<s.c.length
        . obtain⟨n2,d2,e2,a2,b2,hd2⟩:=zdD d1 s.c.length hd1 (by omega);have hlt:n2.toNat<s.c.length:=by omega
          obtain⟨n3,d3,e3,a3,b3,hd3⟩:=zdD d2 3 hd2 (by omega);simp only[eq_self,zbp];simp(disch:=omega)only[zX,zK,zaB,e0,zbD,e1,show(n1==0)=false by simpa using c0,show(n1==1)=true by simpa using c1,zaO,zay,e2,e3,zeC,zaa hlt];simp only[zdL zab];exact more _ _ ⟨by simp,.inr (show i<1000 by omega)⟩ hd3
        .simp(disch:=omega)only[zH,zaB,e0,zbD,e1,show(n1==0)=false by simpa using c0,show(n1==1)=true by simpa using c1,zaO,zay,w64_id];exact stay _ hd1
      . by_cases c2:n1=2
        . by_cases hz:0<out.length
          . obtain⟨n2,d2,e2,a2,b2,hd2⟩:=zdD d1 out.length hd1 (by omega);have hlt:n2.toNat<out.length:=by omega
            simp only[eq_self,zbp];simp(disch:=omega)only[zX,zK,zaB,e0,zbD,e1,show(n1==0)=false by simpa using c0,show(n1==1)=false by simpa using c1,show(n1==2)=true by simpa using c2,zaO,zay,e2,zaR,zcB,zaa hlt]
            simp_all
          .simp(disch:=omega)only[zH,zaB,e0,zbD,e1,show(n1==0)=false by simpa using c0,show(n1==1)=false by simpa using c1,show(n1==2)=true by simpa using c2,zaO,zay,w64_id];exact stay _ hd1
        . by_cases c3:n1=3
          . by_cases hz:0<out.length
            . obtain⟨n2,d2,e2,a2,b2,hd2⟩:=zdD d1 out.length hd1 (by omega);have hlt:n2.toNat<out.length:=by omega
              simp only[eq_self,zbp];simp(disch:=omega)only[zK,zaB,e0,zbD,e1,show(n1==0)=false by simpa using c0,show(n1==1)=false by simpa using c1,show(n1==2)=false by simpa using c2,show(n1==3)=true by simpa using c3,zaO,zay,e2,zaR,zcB,zaa hlt,zae,w64_id (n:=i+1)];simp only[zdL zab];exact more _ _ (show out[n2.toNat].A.length<=12/\(out[n2.toNat].r=0\/out[n2.toNat].a.B<1000)from hp _ (zau hlt)) hd2
            .simp(disch:=omega)only[zH,zaB,e0,zbD,e1,show(n1==0)=false by simpa using c0,show(n1==1)=false by simpa using c1,show(n1==2)=false by simpa using c2,show(n1==3)=true by simpa using c3,zaO,zay,w64_id];exact stay _ hd1
          .obtain⟨e,d2,e2,he,hd2⟩:=c_Mark d1 s i (w64 (w64 (5*i)+n0)) hd1 hs;simp only[eq_self,zbp];simp(disch:=omega)only[zK,zaB,e0,zbD,e1,show(n1==0)=false by simpa using c0,show(n1==1)=false by simpa using c1,show(n1==2)=false by simpa using c2,show(n1==3)=false by simpa using c3,zay,e2,zAq,w64_id (n:=i+1)];simp only[zdL zab];exact more _ _ ⟨he.1,.inl he.2⟩ hd2
 obtain⟨y,e1,l,d',rfl,h⟩:=loop n.toNat 0 [] d (by omega) (by omega) (by simp) (by simp) hd;exact⟨l,d',zC1 e1,h⟩
def c_Events(d:zak)(s:zam)(n:Int)(hd:DOk d)(hs:DSetup s)(hn:0<=n/\n<=50):∃(l:aA) (d':zak),cw 13 [.loc 1000 2 0 0,.agg (zap s),I n] (mD d)=some (zhs (l,d'))/\(l.length:Int)<=n/\(∀e∈l,e.A.length<=12)/\DOk d':=by obtain⟨l,d',h1,h2,h3,h4⟩:=c_EventsK d s n hd hs hn;exact⟨l,d',h1,h2,λe he=>(h3 e he).1,h4⟩
def FullEv(n:Int)(e:zad):Prop:=e.A.length<=12/\e.r=0/\n<=e.a.n/\e.a.n<=n+120/\1000<=e.a.B/\e.q=0
def c_FullK(d:zak)(s:zam)(n:Int)(hd:DOk d)(hs:DSetup s)(hn:0<=n/\n<=1000):∃(l:aA) (d':zak),cw 12 [.loc 1000 2 0 0,.agg (zap s),I n] (mD d)=some (zhs (l,d'))/\l.length<=120/\(∀e∈l,FullEv n e)/\DOk d':=by
 have hm2:=hs.markers.2.1;have hsl:=hs.scripts.2.2;have hpl:=hs.papers.2.1
 let Q:AV×Mem->Prop:=λy=>∃(l:aA) (d':zak),y=zhs (l,d')/\l.length<=120/\(∀e∈l,FullEv n e)/\DOk d'
 have loop:=zbW s.c (λi _=>∀(out:aA) (d:zak),(out.length:Int)<=15*i->(∀e∈out,FullEv n e)->DOk d->Sat Q (zmi s n (mA out) d i)) ?_ ?_ [] d (by simp) (by simp) hd
 .obtain⟨y,e1,l,d',rfl,h⟩:=loop;exact⟨l,d',zFZ e1,h⟩
 .intro out d hl hp hd;refine sat_of (λy=>zuO) ?_;simp(disch:=omega)only[zH,zbp];exact zrT ⟨out,d,rfl,by omega,hp,hd⟩
 . intro i hi r _ ih out d hl hp hd;obtain⟨k,p,hk,hpm,hx,hdp⟩:=ofScript hs (zau hi);have hpp:=hdp.1;have hpg:=hx.2.2.2.2.2.1;refine sat_of (λy=>zuO) ?_;simp(disch:=omega)only[zF,zeC,zaa hi,zAn s.u _ (show s.u.length<=1000000 by omega),hk,zbk,zbO,znS];refine zbW s.k (λj _=>∀(out:aA) (d:zak),(out.length:Int)<=15*i+3*j->(∀e∈out,FullEv n e)->DOk d->Sat Q (zmj s n i p (mA out) d j)) ?_ ?_ out d (by omega) hp hd
   . intro out d hl hp hd;refine sat_of (λy=>zuP) ?_;simp(disch:=omega)only[zH,w64_id]
     grind
   . intro j hj r _ ih2 out d hl hp hd;refine sat_of (λy=>zuP) ?_;simp(disch:=omega)only[zac,zaB];refine zbW p.g (λq _=>∀(out:aA) (d:zak),(out.length:Int)<=15*i+3*j+q->(∀e∈out,FullEv n e)->DOk d->Sat Q (zit s n i p j (mA out) d q)) ?_ ?_ out d (by omega) hp hd
     . intro out d hl hp hd;refine sat_of (λy=>zuQ) ?_;simp(disch:=omega)only[zH,w64_id]
       grind
     . intro q hq r _ ih3 out d hl hp hd;have hmx:=(hdp.2.2.1 _ (zau hq)).1.1;refine sat_of (λy=>zuQ) ?_;by_cases hkd:p.g[q].r=1
       . obtain⟨n0,d0,e0,a0,b0,hd0⟩:=zdD d 4 hd (by omega);by_cases hz:0<n0
         . obtain⟨n1,d1,e1,a1,b1,hd1⟩:=zdD d0 (p.g[q].xb+1) hd0 (by omega);simp(disch:=omega)only[zI,zen,zaa hq,show(p.g[q].r==1)=true by simpa using hkd,zaO,e0,zbD,ze0,zaa hj,zeC,zaa hi,e1,zbp,zdL zab];refine ih3 (out++[_]) d1 (by simp;omega) ?_ hd1;intro x hx';rcases zbo.1 hx' with hx'|hx'
           .exact hp x hx'
           .simp only[zcH]at hx';subst hx';refine⟨?_,rfl,?_,?_,?_,rfl⟩<;>dsimp only<;>omega
         . simp(disch:=omega)only[zI,zaH,zen,zaa hq,show(p.g[q].r==1)=true by simpa using hkd,zaO,e0,zbD]
           grind
       . simp(disch:=omega)only[zI,zaH,zen,zaa hq,show(p.g[q].r==1)=false by simpa using hkd,zay]
         grind
def c_Full(d:zak)(s:zam)(n:Int)(hd:DOk d)(hs:DSetup s)(hn:0<=n/\n<=1000:=by omega):∃(l:aA) (d':zak),cw 12 [.loc 1000 2 0 0,.agg (zap s),I n] (mD d)=some (zhs (l,d'))/\l.length<=120/\(∀e∈l,e.A.length<=12)/\DOk d':=by obtain⟨l,d',h1,h2,h3,h4⟩:=c_FullK d s n hd hs hn;exact⟨l,d',h1,h2,λe he=>(h3 e he).1,h4⟩
def zu6(s:zbf):cw 79 [.agg (zcc s)] []=some (zat (dec (zoH s))):=by
 refine zKH ?_;simp only[zeB,decide_eq_true_eq]
 repeat' split
 all_goals first
  |(rw[zbJ (by unfold zoH;omega)];rfl)
  |(rw[show decide (s.B<=9999)=dec (zoH s)from zf1 (by simp only[decide_eq_true_eq];unfold zoH;omega)];rfl)
def zvO(a b c:Int):cw 217 [I a,I b,I c] []=some (zat (dec (b<=a/\a<=c))):=by
 refine e_ref28_in ?_;simp only[zeB,decide_eq_true_eq];split
 .rw[show decide (a<=c)=dec (b<=a/\a<=c)from zf1 (by simp_all)];rfl
 .rw[zbJ (by omega)];rfl
def zKA(e:zad):cw 157 [.agg (zab e)] []=some (zat (dec (zv9 e))):=by
 refine zKQ ?_;simp only[zu6,zvO,zas,zas,zac];by_cases h1:zoH e.a
 . by_cases h2:0<=e.h/\e.h<=319999
   . by_cases h3:e.A.length<=12
     . simp(disch:=omega)only[zO,zbq h1,zbq h2,zaH];have H:=zlj e.A.length (λj hj=>0<=e.A[j]/\e.A[j]<=1152921504606846976) (λi=>zph e i) (λb=>zat (b&&dec (OkKind e))) ?_ ?_ ?_
       . rw[H];congr 2;rw[zdi];simp only[zaS,zoM,zv9];rw[ztC (G:=λn=>0<=n/\n<=1152921504606846976)]
         simp_all
       . refine ztd ?_;simp(disch:=omega)only[zH,zvO,zas,zcy];simp only[zL,zeB,zoM]
         repeat' split
         all_goals first
          |(rw[zbJ (by unfold OkKind;omega)];rfl)
          |(refine congrArg some (congrArg zat (?_:_=dec (OkKind e)):_=zat _)
            refine zf1 ?_;simp only[beq_iff_eq];unfold OkKind
            omega)
       .intro i hi hn;refine ztd ?_;simp(disch:=omega)only[zW,zF,zb6,zaa hi,zvO,zas,zbJ hn,zcU];rfl
       .intro i hi y hg hk;refine ztd ?_;simp(disch:=omega)only[zO,zI,zb6,zaa hi,zvO,zas,zbq hg,hk]
     .simp(disch:=omega)only[zO,zbq h1,zbq h2,zaB];rw[zbJ (λh=>h3 h.2.2.1)];rfl
   .simp only[zW,zO,zbq h1,zbJ h2];rw[zbJ (λh=>h2 h.2.1)];rfl
 .simp only[zW,zbJ h1];rw[zbJ (λh=>h1 h.1)];rfl
def zEN(a b:aC)(hl:a.length<=1000000):cw 120 [.sl 1 (List.map zah a),.sl 1 (List.map zah b)] []=some (zat (dec (a=b))):=by
 refine zEy ?_;by_cases h:a.length=b.length
 . simp only[zG,zac,h];have H:=zlj a.length (λj hj=>a[j]=b[j]'(by omega)) (λi=>zlI a b i) zat ?_ ?_ ?_
   .rw[H,zhz];exact⟨λhh=>zdb h (λi h1 h2=>hh i h1),λhh=>by subst hh;intros;rfl⟩
   .exact zo7 (by simp(disch:=omega)only[zH];rfl)
   .intro i hi hn;refine zo7 ?_;simp(disch:=omega)only[zF,zb6,zaa hi,zaa (show i<b.length by omega),show(a[i] !=b[i]'(by omega))=true by simpa using hn,zaO];rfl
   .intro i hi y hn hk;refine zo7 ?_;simp(disch:=omega)only[zI,zb6,zaa hi,zaa (show i<b.length by omega),show(a[i] !=b[i]'(by omega))=false by simpa using hn,zay,hk]
 .rw[zbJ (λhh=>h (by rw[hh]))];simp only[zac,show((a.length:Int) !=(b.length:Int))=true by grind,zaO];rfl
def zwz(a b:zad)(hl:a.A.length<=1000000):cw 76 [.agg (zab a),.agg (zab b)] []=some (zat (dec (a=b))):=by
 refine zMe ?_;obtain⟨⟨a1,a2,a3⟩,a4,a5,a6,a7,a8,a9⟩:=a;obtain⟨⟨b1,b2,b3⟩,b4,b5,b6,b7,b8,b9⟩:=b;simp only[zY,zeB,zhX,zEN _ _ hl,zas]
 repeat' split
 all_goals first
  |(rw[zbJ (by simp only[zad.mk.injEq,zbf.mk.injEq];omega)];rfl)
  |(refine congrArg some (congrArg zat (zhz ?_):_=zat _)
    simp_all)
def zsw(a b:zbf):cw 77 [.agg (zcc a),.agg (zcc b)] []=some (zat (lessS a b)):=by
 refine zMd ?_;unfold lessS;simp only[zeB,bne_iff_ne];split
 .rfl
 .split<;>rfl
def zIM(a b:zad):cw 158 [.agg (zab a),.agg (zab b)] []=some (zat (lessS a.a b.a)):=by refine zI2 ?_;simp only[zsw,zas];rfl
def leE(a b:zad):Bool:=!lessS b.a a.a
def merge_loop(a b:aA)(ha:a.length<=100000)(hb:b.length<=100000):∀(n i j:Nat) (out:aA),(a.length-i)+(b.length-j)=n->i<=a.length->j<=b.length->out.length<=i+j->znu a b (mA out) i j=some (zdp (out++List.merge (a.drop i) (b.drop j) leE)):=by
 intro n
 induction n with
 |zero=>intro i j out hn hi hj ho;refine zzU ?_;simp(disch:=omega)only[zH,zbp];rw[zds (show a.length<=i by omega),zds (show b.length<=j by omega)];simp only[List.merge,zcu];rfl
 |succ n ih =>
   intro i j out hn hi hj ho
   have ta:∀hlt:i<a.length,List.merge (a.drop i) (b.drop j) leE=a[i]::List.merge (a.drop (i+1)) (b.drop j) leE->znf a b (mA out) i j=some (zdp (out++List.merge (a.drop i) (b.drop j) leE)):=by intro hlt hm;refine zED ?_;have h2:=ih (i+1) j (out++[a[i]]) (by omega) (by omega) hj (by simp;omega);rw[zcp,zee,<-hm]at h2;simp(disch:=omega)only[zX,zK,zaf,zaR,zcB,zaa hlt,zdL zab];exact h2
   have tb:∀hlt:j<b.length,List.merge (a.drop i) (b.drop j) leE=b[j]::List.merge (a.drop i) (b.drop (j+1)) leE->zng a b (mA out) i j=some (zdp (out++List.merge (a.drop i) (b.drop j) leE)):=by intro hlt hm;refine zEE ?_;have h2:=ih i (j+1) (out++[b[j]]) (by omega) hi (by omega) (by simp;omega);rw[zcp,zee,<-hm]at h2;simp(disch:=omega)only[zX,zK,zaf,zaR,zcB,zaa hlt,zdL zab];exact h2
   have mid:zne a b (mA out) i j=some (zdp (out++List.merge (a.drop i) (b.drop j) leE)):=by
    refine zEC ?_;by_cases hjb:j=b.length
    .simp only[zac,show((j:Int)==(b.length:Int))=true by simp[hjb],zaO];refine ta (by omega) ?_;rw[zds (show b.length<=j by omega),zbe (show i<a.length by omega)];simp[List.merge]
    . have hjl:j<b.length:=by omega
      have hne:((j:Int)==(b.length:Int))=false:=by simp only[beq_eq_false_iff_ne,ne_eq];omega
      by_cases hia:i<a.length
      . have hm:=zbe hia;have hm2:=zbe hjl;simp(disch:=omega)only[zF,hne,zay,zaR,zcB,zaa hia,zaa hjl,zIM,zas]
        cases hls:lessS b[j].a a[i].a with
        |false=>simp only[zW];refine ta hia ?_;rw[hm,hm2,List.merge,if_pos (by simp[leE,hls])]
        |true=>simp only[zO];refine tb hjl ?_;rw[hm,hm2,List.merge,if_neg (by simp[leE,hls])]
      .simp(disch:=omega)only[zH,hne,zay];refine tb hjl ?_;rw[zds (show a.length<=i by omega),zbe hjl];simp[List.merge]
   refine zzU ?_;by_cases hia:i<a.length
   .simp(disch:=omega)only[zac,zaB];exact mid
   .simp(disch:=omega)only[zH,zaB];exact mid
def zmV{a b c:zbf}(h1:lessS b a=false)(h2:lessS c b=false):lessS c a=false:=by
 unfold lessS at *
 grind
def zyK(a b:zbf):lessS a b=false\/lessS b a=false:=by
 unfold lessS
 grind
def leE_trans(a b c:zad)(h1:leE a b=true)(h2:leE b c=true):leE a c=true:=by simp only[leE,zdo]at *;exact zmV h1 h2
def leE_total(a b:zad):(leE a b||leE b a)=true:=by simp only[leE,zfL,zdo];exact zyK _ _
def zLU:∀(n:Nat) (l:aA),l.length<=n->l.length<=100000->∃r,cw 114 [.sl 9 (mA l)] []=some (zdp r)/\r.Perm l/\r.Pairwise (λa b=>leE a b=true):=by
 intro n
 induction n with
 |zero=>intro l hl _;have:l=[]:=zcV (by omega);subst this;refine⟨[],zwK ?_,zgz _,List.Pairwise.nil⟩;simp(disch:=omega)only[zK,zcN,zaB];rfl
 |succ n ih =>
   intro l hl h5;by_cases h2:l.length<2
   . refine⟨l,zwK ?_,zgz _,?_⟩
     .simp(disch:=omega)only[zK,zaB];rfl
     . match l,h2 with
       |[],_=>exact List.Pairwise.nil
       |[x],_=>simp_all
   . have ht:(l.length:Int).tdiv 2=((l.length / 2:Nat):Int):=by rw[Int.tdiv_eq_ediv_of_nonneg (by omega)];omega
     obtain⟨a,ea,pa,sa⟩:=ih (l.take (l.length / 2)) (by simp;omega) (by simp;omega);obtain⟨b,eb,pb,sb⟩:=ih (l.drop (l.length / 2)) (by simp;omega) (by simp;omega);have la:=pa.length_eq;have lb:=pb.length_eq;simp only[zdc,ze6]at la lb;refine⟨List.merge a b leE,zwK ?_,?_,List.pairwise_merge leE_trans leE_total a b sa sb⟩
     .simp only[List.map_take]at ea;simp only[zhY]at eb;have hloop:=merge_loop a b (by omega) (by omega) _ 0 0 [] rfl (by omega) (by omega) (by simp);simp only[zhF,zfp,zdH]at hloop;have e1:List.take (List.length l) (mA l)=mA l:=zaz (by simp);simp(disch:=omega)only[za,zH,ht,w64_id,ea,zhS,e1,eb];exact hloop
     . refine(List.merge_perm_append leE).trans ?_;have:=pa.append pb
       simp_all
abbrev dKey(e:zad):Int×Int:=(e.a.b,e.a.B)
abbrev DMap:=List ((Int×Int)×Int)×List ((Int×Int)×Bool)
open Classical in
def dstep(l:aA)(i:Nat)(e:zad)(fb:DMap):DMap:=
 if zv9 e then
  match mfind (dKey e) fb.1 with
  |none=>(mput (dKey e) (i:Int) fb.1,fb.2)
  |some n=>if l[n.toNat]?=some e then fb else(fb.1,mput (dKey e) true fb.2)
 else fb
def dfold(l:aA):List zad->Nat->DMap->DMap
 |[],_,fb=>fb
 |e::r,i,fb=>dfold l r (i+1) (dstep l i e fb)
def zmX{κ ν:Type}[DecidableEq κ]{k:κ}{v:ν}:∀{l:List (κ×ν)} {p:κ×ν},p∈mput k v l->p=(k,v)\/p∈l
 |[],p,h=>by simpa[mput]using h
 |q::r,p,h=>by
   unfold mput at h;split at h
   .grind
   . rcases za9.1 h with h|h
     .simp_all
     . rcases zmX h with h|h
       .exact Or.inl h
       simp_all
def zjc{κ ν:Type}[DecidableEq κ]{k:κ}:∀{l:List (κ×ν)} {v:ν},mfind k l=some v->(k,v)∈l
 |[],v,h=>by simp[mfind]at h
 |q::r,v,h=>by
   unfold mfind at h;split at h
   .grind
   .exact zdr _ (zjc h)
def disp_loop(l:aA)(hl:l.length<=100000)(hp:∀e∈l,e.A.length<=1000000):∀(n i:Nat) (fb:DMap),i+n=l.length->(∀p∈fb.1,0<=p.2/\p.2<i)->zgw l (mZ fb.1) (mP fb.2) i=some (zlw (dfold l (l.drop i) i fb)):=by
 intro n
 induction n with
 |zero=>intro i fb hi hf;refine zuW ?_;rw[zds (by omega),dfold];simp(disch:=omega)only[zH];rfl
 |succ n ih =>
   intro i fb hi hf;have hlt:i<l.length:=by omega
   refine zuW ?_;rw[zbe hlt,dfold];simp(disch:=omega)only[zF,zcB,zaa hlt,zKA,zas];have stay:zgw l (mZ fb.1) (mP fb.2) ((i:Int)+1)=some (zlw (dfold l (l.drop (i+1)) (i+1) fb)):=ih (i+1) fb (by omega) (λp hp=>by have:=hf p hp;omega);by_cases hv:zv9 l[i]
   . simp(disch:=omega)only[zO,zbq hv,zxK,zIi,zw5];unfold dstep;rw[if_pos hv]
     cases hm:mfind (dKey l[i]) fb.1 with
     |none =>
       simp(disch:=omega)only[zW,hm,zeJ,w64_id]
       exact ih (i+1) (mput (dKey l[i]) (i:Int) fb.1,fb.2) (by omega) (by
        intro p hp;rcases zmX hp with rfl|hp
        .dsimp only;omega
        grind)
     |some m =>
       have hb:=hf _ (zjc hm);have hml:m.toNat<l.length:=by have:=hb.2;simp only at this;omega
       have hm0:0<=m:=hb.1;simp(disch:=omega)only[za,zO,hm,zdd,zbO,zcB,zaa hml,zaa hlt,zae,zwz _ _ (hp _ (zau hml)),zas];by_cases he:l[m.toNat]=l[i]
       . simp(disch:=omega)only[zO,zbq he,w64_id]
         simp_all
       . simp(disch:=omega)only[zW,zbJ he,w64_id]
         grind
   . simp(disch:=omega)only[zW,zbJ hv,w64_id];unfold dstep
     simp_all
def dispF(l:aA):DMap:=dfold l l 0 ([],[])
def c_disputes(l:aA)(hl:l.length<=100000)(hp:∀e∈l,e.A.length<=1000000):cw 113 [.sl 9 (mA l)] []=some (zlw (dispF l)):=
 zF9 (disp_loop l hl hp l.length 0 ([],[]) (by omega) (by simp))
def ckeep(fb:DMap):List zad->Nat->List zad
 |[],_=>[]
 |e::r,i=>if mfind (dKey e) fb.1=some (i:Int)/\(mfind (dKey e) fb.2).getD false=false then e::ckeep fb r (i+1)else ckeep fb r (i+1)
def zCZ{fb:DMap}:∀{l:aA} {i:Nat},(ckeep fb l i).length<=l.length
 |[],_=>by simp[ckeep]
 |x::r,i=>by
   unfold ckeep;have:=zCZ (fb:=fb) (l:=r) (i:=i+1)
   grind
def zMS(l:aA)(hl:l.length<=2000)(hp:∀e∈l,e.A.length<=1000000):∃r,cw 64 [.sl 9 (mA l)] []=some (zdw (r,0))/\r.Perm (ckeep (dispF l) l 0)/\r.Pairwise (λa b=>leE a b=true):=by
 have hlen:=zCZ (fb:=dispF l) (l:=l) (i:=0);obtain⟨r,er,pr,sr⟩:=zLU _ (ckeep (dispF l) l 0) (zaW _) (by omega);have hrl:=pr.length_eq;refine⟨r,zEx ?_,pr,sr⟩;simp only[c_disputes l (by omega) hp,zAv]
 have loop:∀(n i:Nat) (out:aA),i+n=l.length->out.length<=i->out++ckeep (dispF l) (l.drop i) i=ckeep (dispF l) l 0->zge l (dispF l) (mA out) i=some (zdw (r,0)):=by
  intro n
  induction n with
  |zero=>intro i out hi ho hk;rw[zds (by omega),ckeep,zcu]at hk;subst hk;refine ztv ?_;simp(disch:=omega)only[zR,zH];rw[zaz (by simp)];simp(disch:=omega)only[er,zhS,zac,zaW,zbp];rw[zaz (by simp)];rfl
  |succ n ih =>
    intro i out hi ho hk;have hlt:i<l.length:=by omega
    have hpg:=hp _ (zau hlt);rw[zbe hlt,ckeep]at hk;refine ztv ?_;simp(disch:=omega)only[zF,zcB,zaa hlt,zxK,zwV]
    have stay:¬(mfind (dKey l[i]) (dispF l).1=some (i:Int)/\(mfind (dKey l[i]) (dispF l).2).getD false=false)->zge l (dispF l) (mA out) ((i:Int)+1)=some (zdw (r,0)):=by intro hn;rw[if_neg hn]at hk;exact ih (i+1) out (by omega) (by omega) hk
    cases hm:mfind (dKey l[i]) (dispF l).1 with
    |none =>
      simp(disch:=omega)only[hm,zeJ,zay,w64_id]
      simp_all
    |some m =>
      by_cases hmi:m=i
      . subst hmi;simp(disch:=omega)only[zZ,hm,zdd,zbO]
        cases hb:(mfind (dKey l[i]) (dispF l).2).getD false with
        |true =>
          simp(disch:=omega)only[zO,hb,w64_id]
          simp_all
        |false=>rw[if_pos ⟨hm,hb⟩]at hk;have h2:=ih (i+1) (out++[l[i]]) (by omega) (by simp;omega) (by simp_all);(try simp only[<-zdL zab]at h2);simp(disch:=omega)only[zX,zW,zK,hb,zaf,zcB,zaa hlt,zaR,zaW];rw[zaz (by simp)];exact h2
      . simp(disch:=omega)only[hm,zdd,zbO,zaO,show(m==(i:Int))=false by simpa using hmi,zay,w64_id]
        simp_all
 exact loop l.length 0 [] (by omega) (by simp) rfl
def seedR:Option (Nat×GSeed)->List Int×Bool
 |some (_,y)=>(y.T,true)
 |none=>([],false)
def zim(l:List GSeed)(n:Int)(hl:l.length<=1000000)(hm:∀y∈l,y.T.length<=1000000):cw 40 [.sl 2 (mO l),I n] []=some (ziA (seedR (seedOf l n))):=by
 refine zC9 ?_;refine ziS l (λy=>y.h==n) (λi=>zk0 l n i) (λo=>ziA (seedR o)) ?_ ?_ ?_
 .refine zoq ?_;simp(disch:=omega)only[zR,zH];rfl
 .intro i hi h;have:=hm _ (zau hi);refine zoq ?_;simp(disch:=omega)only[zR,zF,zmN,zaa hi,h,zaO];rw[zaz (by simp)];rfl
 .intro i hi y h hk;refine zoq ?_;simp(disch:=omega)only[zI,zmN,zaa hi,h,zay,hk]
def zMQ:zbh:=⟨0,0,0,0,[]⟩
def zhU:Option (Nat×zbh)->zbh×Bool
 |some (_,y)=>(y,true)
 |none=>(zMQ,false)
def zwy(l:aN)(n:Int)(hl:l.length<=1000000):cw 22 [.sl 5 (mI l),I n] []=some (znz (zhU (zg4 l n))):=by
 refine zL7 ?_;refine ziS l (λy=>y.ID==n) (λi=>zqw l n i) (λo=>znz (zhU o)) ?_ ?_ ?_
 .refine zub ?_;simp(disch:=omega)only[zH];rfl
 .intro i hi h;refine zub ?_;simp(disch:=omega)only[zF,ze0,zaa hi,h,zaO];rfl
 .intro i hi y h hk;refine zub ?_;simp(disch:=omega)only[zI,ze0,zaa hi,h,zay,hk]
def zLR(m:zbh)(x:zaY)(hl:m.u.length<=1000000):cw 161 [.agg (zbl m),.agg (za0 x)] []=some (zat (dec (FitsM m x))):=by
 refine zL8 ?_;have H:=any_bool m.u.length (λj hj=>m.u[j]=x.xa) (λi=>zqx m x i) (λb=>zat (b&&(m.Q !=x.Q))) ?_ ?_ ?_
 .rw[H];congr 2;rw[zdi];simp only[zaS,zoM,FitsM,bne_iff_ne];refine and_congr_left' ⟨λ⟨j,hj,e⟩=>e▸zau hj,λh=>?_⟩;obtain⟨j,hj,e⟩:=zbB.1 h;exact⟨j,hj,e⟩
 .exact zuc (by simp(disch:=omega)only[zH];rfl)
 .intro i hi h;refine zuc ?_;simp(disch:=omega)only[zF,zb6,zaa hi,show(m.u[i]==x.xa)=true by simpa using h,zaO,zcy];rfl
 .intro i hi y h hk;refine zuc ?_;simp(disch:=omega)only[zI,zb6,zaa hi,show(m.u[i]==x.xa)=false by simpa using h,zay,hk]
def zFM(l:aN)(n:Int)(x:zaY)(hl:l.length<=1000000)(hm:∀m∈l,m.u.length<=1000000):cw 117 [.sl 5 (mI l),I n,.agg (za0 x)] []=some (zat (dec (Elig l n x))):=by
 refine zF7 ?_;simp only[zwy l n hl,znT]
 cases h:zg4 l n with
 |none=>simp only[zhU,zay];rw[zbJ (by rintro⟨k,m,h2,_⟩;rw[h]at h2;cases h2)];rfl
 |some q=>obtain⟨k,m⟩:=q;have hmem:=zav (fnd_at h).1;simp only[zhU,zaO,zLR m x (hm m hmem),zas];rw[show dec (Elig l n x)=dec (FitsM m x)from zhz ⟨by rintro⟨k',m',h2,h3⟩;simp_all,λh3=>⟨k,m,h,h3⟩⟩];rfl
def zvz(p:zaQ)(c:zbu)(j:Nat)(x:GPart)(v:Int)(hs:Short c)(hok:ze5 p c)(hx:p.g[j]?=some x):cw 119 [.agg (zaU p),.agg (zbI c),I j,I v] []=some (zat (dec (PermP x v))):=by
 obtain⟨hj,hx⟩:=zao.1 hx;refine zEw ?_;simp(disch:=omega)only[za,zO,zH,zic p c hs,zas,zbq hok,zen,zaa hj,zae,hx];simp only[zL,zeB];by_cases h:x.r=2
 . rw[if_pos h,show dec (PermP x v)=dec (v=-1\/v=0\/v=x.xb)from zhz (by unfold PermP;rw[if_pos h])]
   repeat' split
   all_goals first
    |(rw[zbq (by omega)];rfl)
    |(rw[show(v==x.xb)=dec (v=-1\/v=0\/v=x.xb)from zf1 (by simp_all)];rfl)
 . rw[if_neg h,show dec (PermP x v)=dec (-1<=v/\v<=x.xb)from zhz (by unfold PermP;rw[if_neg h])];split
   .rw[show decide (v<=x.xb)=dec (-1<=v/\v<=x.xb)from zf1 (by simp_all)];rfl
   .rw[zbJ (by omega)];rfl
def zwA(p:zaQ)(n:Int):cw 118 [.agg (zaU p),I n] []=some (zat (dec (OpenP p n))):=by
 refine zMh ?_;by_cases h0:0<=n
 . by_cases h1:n.toNat<p.g.length
   . simp(disch:=omega)only[zaB,zac,zar,zen,zaa h1,zae]
     rw[show(p.g[n.toNat].r==1)=dec (OpenP p n)from zf1 (by
      simp only[beq_iff_eq]
      exact⟨λh=>⟨h0,_,zaa h1,h⟩,λ⟨_,x,h2,h3⟩=>by simp_all⟩)]
     rfl
   .simp(disch:=omega)only[zH,zaB];rw[zbJ (by rintro⟨_,x,h2,_⟩;simp_all)];rfl
 .simp(disch:=omega)only[zaH];rw[zbJ (λh=>h0 h.1)];rfl
def zCO(s:zam)(hs:zb2 s)(e:zad)(hm:∀m∈s.k,m.u.length<=1000000)(hp:e.A.length<=1000000):cw 66 [.agg (zap s),.agg (zab e)] []=some (zat (dec (FitsE s e))):=by
 have hm16:=hs.markers.1;have hx60:=hs.scripts.1;have hp32:=hs.papers;refine zMf ?_;simp only[ztE s.c e.h (by omega),zin]
 cases h1:zf4 s.c e.h with
 |none=>simp only[zW,scR];rw[zbJ (by rintro⟨x,h2,_⟩;grind)];rfl
 |some x =>
   have hmem:=(zrc h1).1;obtain⟨k,p,c,hk,hc,_⟩:=hs.script x hmem;simp only[zO,scR];by_cases h2:e.r=0
   . simp only[show(e.r !=0)=false by simp[h2],zay,zFM s.k e.a.b x (by omega) hm,zas];by_cases h3:Elig s.k e.a.b x
     . have hpk:=(zfb hk).1;have hlt:=(zao.1 hpk).1;simp(disch:=omega)only[za,zO,zbq h3,zu7 s.u x (by omega),hk,ixR,zgf,zeM,hpk,zae,zwA,zas,zkB,hc];by_cases h4:OpenP p e.x
       . obtain⟨h0,y,hy,hyk⟩:=h4;have hy1:1<=y.xb:=((hs.okPaper hpk).2.2.2.1 y (zav hy)).1.1;have hje:((e.x.toNat:Nat):Int)=e.x:=by omega
         have hperm:=zvz p c e.x.toNat y e.s (hs.short c (zav hc)) (hs.schemes k p c hpk hc) hy;rw[hje]at hperm
         have hiff:FitsE s e↔(-1<=e.s/\e.s<=y.xb)/\e.A=x.A:=by
          constructor
          . rintro⟨x',a1,_,_,k',p',y',a2,_,a3,_,a4,a5⟩
            simp_all
          . rintro⟨a4,a5⟩
            exact⟨x,h1,h2,h3,k,p,y,hk,h0,hy,hyk,a4,a5⟩
         rw[zhz hiff];simp only[zbq (show OpenP p e.x from⟨h0,y,hy,hyk⟩),zaO,zEN e.A x.A hp,zas,hperm,zas];by_cases h5:e.s=-1
         .simp only[show(e.s==-1)=true by simp[h5],zaO];rw[show dec ((-1<=e.s/\e.s<=y.xb)/\e.A=x.A)=dec (e.A=x.A)from zhz ⟨λh=>h.2,λh=>⟨by omega,h⟩⟩];rfl
         . simp only[show(e.s==-1)=false by simpa using h5,zay];by_cases h6:-1<=e.s/\e.s<=y.xb
           . rw[zbq (show PermP y e.s by unfold PermP;simp_all),zaO,
              show dec ((-1<=e.s/\e.s<=y.xb)/\e.A=x.A)=dec (e.A=x.A)from zhz ⟨λh=>h.2,λh=>⟨h6,h⟩⟩]
             rfl
           .rw[zbJ (show¬PermP y e.s by unfold PermP;simp_all),zay,zbJ (λh=>h6 h.1)];rfl
       . simp only[zbJ h4,zay]
         rw[zbJ (by
          rintro⟨x',a1,_,_,k',p',y',a2,a0,a3,a6,_⟩
          rw[h1]at a1;cases a1;rw[hk]at a2;cases a2
          exact h4 ⟨a0,y',a3,a6⟩)]
         rfl
     . simp only[zW,zbJ h3]
       rw[zbJ (by
        rintro⟨x',a1,_,a3,_⟩
        simp_all)]
       rfl
   .simp only[show(e.r !=0)=true by simpa using h2,zaO];rw[zbJ (by rintro⟨_,_,a,_⟩;exact h2 a)];rfl
section
variable[Dr]
def c_isNaN(a:Int):cw 172 [I a] []=some (zat false):=by refine zHx ?_;simp;rfl
def c_cmp(a b:Int):cw 125 [I a,I b] []=some (zbv (cmpI a b)):=by
 refine zEn ?_;rw[c_isNaN a,zas,c_isNaN b,zas,zay,zay,zfy,zfy];unfold cmpI;split
 .rfl
 .split<;>rfl
def c_Or(l:aC)(hl:l.length<=1000000):cw 124 [.sl 1 (List.map zah l)] []=some (zbv (zns l)):=by
 refine zL1 ?_;refine zxQ l (λi r=>zqt l (i:Nat)=some (zbv (zns r))) ?_ ?_
 .refine zzN ?_;rw[zac,zfy,iNQ];rfl
 . intro i x r hi hx hr ih;refine zzN ?_;rw[zac,zfy,iPQ,cPQ,zaf,zb6,zaa hi,zae,hx,w6Q];by_cases h0:x=0
   .subst h0;simpa[zns]using ih
   .simp only[h0,zns,if_false,show(x !=0)=true from by simpa using h0,zaO];rfl
def zzi(a b:zbf):cw 71 [.agg (zcc a),.agg (zcc b)] []=some (zbv (cmpS a b)):=by refine zHM ?_;rw[c_cmp _ _,za7,c_cmp _ _,za7,c_cmp _ _,za7,c_Or _ (by simp),za7];rfl
def zFS(a b:zbf):decide (0<cmpS a b)=lessS b a:=by
 unfold cmpS cmpI lessS;simp only[zns]
 grind
def cmpS_neg(a b:zbf):decide (cmpS a b<0)=lessS a b:=by
 unfold cmpS cmpI lessS;simp only[zns]
 grind
end
def c_Equal(a b:aC)(hl:a.length<=1000000):cw 189 [.sl 1 (List.map zah a),.sl 1 (List.map zah b)] []=some (zat (dec (a=b))):=by
 refine zyD ?_;by_cases h:a.length=b.length
 . simp only[zG,zac,h];have H:=zlj a.length (λj hj=>a[j]=b[j]'(by omega)) (λi=>ziY a b i) zat ?_ ?_ ?_
   .rw[H,zhz];exact⟨λhh=>zdb h (λi h1 h2=>hh i h1),λhh=>by subst hh;intros;rfl⟩
   .exact zlA (by simp(disch:=omega)only[zH];rfl)
   .intro i hi hn;refine zlA ?_;simp(disch:=omega)only[zF,zb6,zaa hi,zaa (show i<b.length by omega),show(a[i] !=b[i]'(by omega))=true by simpa using hn,zaO];rfl
   .intro i hi y hn hk;refine zlA ?_;simp(disch:=omega)only[zI,zb6,zaa hi,zaa (show i<b.length by omega),show(a[i] !=b[i]'(by omega))=false by simpa using hn,zay,hk]
 .rw[zbJ (λhh=>h (by rw[hh]))];simp only[zac,show((a.length:Int) !=(b.length:Int))=true by grind,zaO];rfl
def zHs{p:Prop}[Decidable p]:dec p=decide p:=by
 by_cases h:p
 .rw[zbq h,decide_eq_true h]
 .rw[zbJ h,decide_eq_false h]
def c_idx_t(l:aC)(hl:l.length<=1000000):cw 235 [.sl 1 (List.map zah l),.fn 263 []] []=some (zbv (match fnd (λm=>decide (200<m)) 0 l with|some (i,_)=>(i:Int)|none=>-1)):=by
 refine ztL ?_;refine ziS l (λm=>decide (200<m)) (λi=>zha l i) (λo=>zbv (match o with|some (i,_)=>(i:Int)|none=>-1)) ?_ ?_ ?_
 .exact zi2 (by simp(disch:=omega)only[zH];rfl)
 .intro i hi h;refine zi2 ?_;simp(disch:=omega)only[zF,zb6,zaa hi];rw[zsz (y:=zat (decide (200<l[i]))) rfl,zas,h,zaO];rfl
 .intro i hi y h hk;refine zi2 ?_;simp(disch:=omega)only[zF,zb6,zaa hi];rw[zsz (y:=zat (decide (200<l[i]))) rfl,zas,h,zay,w6Q];exact hk
def fnd_any{α:Type}{p:α->Bool}{l:List α}:(fnd p 0 l).isSome=l.any p:=by
 cases h:fnd p 0 l with
 |none =>
   have:=ztV.1 h
   simp_all
 |some q =>
   obtain⟨i,x⟩:=q;obtain⟨h1,h2,_⟩:=fnd_at h
   grind
def zLN(l:aC)(hl:l.length<=1000000):cw 180 [.sl 1 (List.map zah l),.fn 263 []] []=some (zat (l.any λm=>decide (200<m))):=by
 refine zsm ?_;rw[c_idx_t l hl,za7,<-fnd_any]
 cases fnd (λm=>decide (200<m)) 0 l with
 |none=>rfl
 |some q=>simp;rfl
def zHk(l:aC)(hl:l.length<=1000000):cw 242 [.sl 1 (List.map zah l)] []=some (zat (greatB l)):=by
 refine zC7 ?_;unfold greatB;rw[zLN l hl,zas,zac];by_cases h:24<l.length
 .rw[zaB (by omega)];simp[h];rfl
 .rw[zaH (by omega)];simp[h];rfl
def zHg(a b:Int)(ha:0<=a/\a<=1000000)(hb:0<=b/\b<=1000000):cw 243 [I a,I b] []=some (zbv (distI a b)):=by refine zC6 ?_;rw[w6Q,w6Q];rfl
def zDU{a:Int}(h:a<=200):0<=posI a/\posI a<=200:=by unfold posI;split<;>omega
def c_Good(r:zbK)(hr:OkMon r)(a b:aC)(ha:a.length<=1000000)(hb:b.length<=1000000):cw 190 [.agg (zca r),.sl 1 (List.map zah a),.sl 1 (List.map zah b)] []=some (zat (goodS r a b)):=by
 refine zIY ?_;rw[zsv _ hr,za7,show((0:Int) !=0)=false from rfl,zay,zHk a ha,zas,zHk b hb,zas,zac,zac];unfold goodS;by_cases hl:a.length=b.length
 case neg=>rw[show((a.length:Int) !=(b.length:Int))=true by grind,zaO,show(a.length==b.length)=false by simpa using hl];rfl
 rw[show((a.length:Int) !=(b.length:Int))=false by simp[hl],zay,show(a.length==b.length)=true by simpa using hl]
 cases hga:greatB a with
 |true=>rfl
 |false =>
 cases hgb:greatB b with
 |true=>rfl
 |false =>
 rw[zay,zay]
 have small:∀l:List Int,greatB l=false->l.length<=24/\∀m∈l,m<=200:=λl h=>by
  unfold greatB at h
  simp_all
 obtain⟨sa1,sa2⟩:=small a hga;obtain⟨sb1,sb2⟩:=small b hgb
 have key:∀(n i:Nat) (x y:Int),i+n=a.length->0<=x/\x<=200*i->0<=y/\y<=200*i->zn7 r a b x y i=some (zat (ztZ r (a.drop i) (b.drop i) x y)):=by
  intro n
  induction n with
  |zero=>intro i x y hi hx hy;refine zw9 ?_;rw[zac,zaH (by omega),zHg x y (by omega) (by omega),za7,zcr (by omega)];rfl
  |succ n ih =>
    intro i x y hi hx hy;have h1:i<a.length:=by omega
    have h2:i<b.length:=by omega
    have p1:=zDU (sa2 _ (zau h1));have p2:=zDU (sb2 _ (zau h2));refine zw9 ?_;rw[zbe h1,zbe h2];simp(disch:=omega)only[zF,zb6,zaa h1,zaa h2];rw[show(if(0:Int) > a[i]then 0 else a[i])=posI a[i]from rfl,show(if(0:Int) > b[i]then 0 else b[i])=posI b[i]from rfl,zHg _ _ (by omega) (by omega),za7,zfy];unfold ztZ;split
    .rfl
    . rw[w6Q,w6Q,w6Q]
      grind
 exact key a.length 0 0 0 (by omega) (by omega) (by omega)
def zJl(r:zbK)(l:aP)(hl:l.length<=1000000):cw 246 [.agg (zca r),.sl 1 (List.map nBool l)] []=some (zat (decide (r.S<=failsN l))):=by
 refine zEt ?_
 have key:∀(n i:Nat) (x:Int),i+n=l.length->0<=x/\x<=i->zjr r l x i=some (zat (decide (r.S<=x+failsN (l.drop i)))):=by
  intro n
  induction n with
  |zero=>intro i x hi hx;refine ztu ?_;rw[zac,zaH (by omega),zcr (by omega)];rw[show x+failsN []=x by simp[failsN]];rfl
  |succ n ih =>
    intro i x hi hx;have h1:i<l.length:=by omega
    refine ztu ?_;rw[zbe h1];simp(disch:=omega)only[zF,zqk,zaa h1]
    cases hb:l[i]with
    |true=>rw[zaG,zay,w6Q];have:=ih (i+1) x (by omega) (by omega);rw[show((i:Int)+1)=((i+1:Nat):Int)by omega,this,show failsN (true::List.drop (i+1) l)=failsN (List.drop (i+1) l)by simp[failsN]]
    |false =>
      rw[zbj,zaO,w6Q,w6Q];have:=ih (i+1) (x+1) (by omega) (by omega);rw[show((i:Int)+1)=((i+1:Nat):Int)by omega,this]
      have e:x+1+failsN (List.drop (i+1) l)=x+failsN (false::List.drop (i+1) l):=by simp[failsN];omega
      rw[e]
 have:=key l.length 0 0 (by omega) (by omega);simpa using this
def c_MValid(r:zbK)(hr:OkMon r)(w:zck)(hw:zoI r w):cw 244 [.agg (zca r),.agg (zdR w)] []=some (zat true):=by have h1:=hw.1;have h2:=hr.2.2.1;refine zHF ?_;rw[zsv _ hr,za7,show((0:Int)==0)=true from rfl,zaO,zac,zaB (by omega),zJl r w.J (by omega),zas,<-hw.2];simp;rfl
def c_CloneB(hok:CallOK zP (single 245 zOrc))(l:aP)(hl:l.length<=1000000):cw 245 [.sl 1 (List.map nBool l)] []=some (zlx l):=ziz hok (by
 show(if(List.map nBool l).length<=100000000 then some (AV.new 1 4 (List.map nBool l),([]:Mem))else none)=_;rw[if_pos (by simp;omega)]
 rfl)
def c_CloneI(hok:CallOK zP (single 151 zOrc))(l:aC)(hl:l.length<=1000000):cw 151 [.sl 1 (List.map zah l)] []=some (zeD l):=ziz hok (by
 show(if(List.map zah l).length<=100000000 then some (AV.new 1 3 (List.map zah l),([]:Mem))else none)=_;rw[if_pos (by simp;omega)]
 rfl)
def c_Step(hok:CallOK zP (single 245 zOrc))(r:zbK)(hr:OkMon r)(w:zck)(hw:zoI r w)(b:Bool):cw 191 [.agg (zca r),.agg (zdR w),B b] []=some (zp2 (if w.p then(⟨[],false⟩,8)else(stepW r w b,0))):=by
 have h1:=hw.1;have h2:=hr.2.2.1;refine zIZ ?_;rw[c_MValid r hr w hw,zas,zaG,zay]
 cases hs:w.p with
 |true=>rfl
 |false =>
 have hlen:(List.map nBool w.J++[[B b]]).length=w.J.length+1:=by simp
 rw[zay,c_CloneB hok _ (by omega),ztF,zar rfl,zar (by grind),zar rfl,hlen]
 have fin:∀x2 x3:Nat,x2+x3=w.J.length+1->(x3:Int)<=r.Z->(w.J++[b]).drop x2=lastW r w b->zn8 r w b w.J x2 x3=some (zp2 (stepW r w b,0)):=by
  intro x2 x3 h3 h4 h5
  have e:List.take x3 (List.drop x2 (List.map nBool w.J++[nBool b]))=List.map nBool (lastW r w b):=by simp only[zdL nBool];rw[<-zhY,h5,zaz];rw[<-h5];simp;omega
  have hle:(lastW r w b).length<=1000000:=by rw[<-h5];simp;omega
  refine zxa ?_;rw[zaH (by omega),zar (by rw[hlen];omega),e,zJl r _ hle,zas,zar (by rw[hlen];omega),show List.take x3 (List.drop x2 (List.map nBool w.J++[[B b]]))=List.map nBool (lastW r w b)from e];rfl
 by_cases hc:r.Z<(w.J.length:Int)+1
 . refine zxa ?_;rw[zaB (by omega),cPQ,cPQ,cPQ];refine fin _ _ (by omega) (by omega) ?_;unfold lastW
   simp_all
 . refine fin 0 _ (by omega) (by omega) ?_;unfold lastW
   grind
def zyo(x:GPart)(v:Int):cw 241 [.agg (za8 x),I v] []=some (zat (permB x v)):=by
 refine zDb ?_;unfold permB;simp only[zL,zeB];by_cases h1:v=-1
 .rw[if_pos h1,if_pos h1];rfl
 rw[if_neg h1,if_neg h1];by_cases h2:x.r=2
 . rw[if_pos h2,if_pos h2];by_cases h3:v=0
   .rw[if_pos h3,h3];rfl
   .rw[if_neg h3,show(v==0)=false by simpa using h3,zc8];rfl
 rw[if_neg h2,if_neg h2];split
 .rename_i h;rw[show decide (0<=v/\v<=x.xb)=decide (v<=x.xb)by simp[h]];rfl
 .rename_i h;rw[show decide (0<=v/\v<=x.xb)=false by simp[h]];rfl
def zMT(p:zaQ)(c:zbu)(j:Nat)(x:GPart)(v:Int)(hs:Short c)(hok:ze5 p c)(hx:p.g[j]?=some x):cw 188 [.agg (zaU p),.agg (zbI c),I j,I v] []=some (zat (permB x v)):=by obtain⟨hj,hx⟩:=zao.1 hx;refine zDa ?_;simp(disch:=omega)only[zF,zju p c hs,zas,zbq hok,zaO,zen,zaa hj,hx,zyo,zas];rfl
def c_mayMark(m:zbh)(x:zaY)(hl:m.u.length<=1000000):cw 240 [.agg (zbl m),.agg (za0 x)] []=some (zat (mayB m x)):=by
 refine zF4 ?_;unfold mayB;rw[zHf _ _ hl,zas]
 cases h:(m.Q !=x.Q)with
 |true=>rw[zaO,zhX,zHs,List.elem_eq_contains.symm,List.elem_eq_mem];rfl
 |false=>rw[zay,zeq];rfl
def c_Find(hok:CallOK zP (single 151 zOrc))(l:aN)(n:Int)(hl:l.length<=1000000)(hm:∀m∈l,m.u.length<=1000000):cw 239 [.sl 5 (mI l),I n] []=some (znz (zhU (zg4 l n))):=by
 refine zKG ?_;refine ziS l (λy=>y.ID==n) (λi=>zpf l n i) (λo=>znz (zhU o)) ?_ ?_ ?_
 .exact zs7 (by simp(disch:=omega)only[zH];rfl)
 .intro i hi h;refine zs7 ?_;simp(disch:=omega)only[zF,ze0,zaa hi,h,zaO];rw[c_CloneI hok _ (hm _ (zau hi)),zgU,zaz (by simp)];rfl
 .intro i hi y h hk;refine zs7 ?_;simp(disch:=omega)only[zI,ze0,zaa hi,h,zay,hk]
def c_Eligible(hok:CallOK zP (single 151 zOrc))(l:aN)(n:Int)(x:zaY)(hl:l.length<=1000000)(hm:∀m∈l,m.u.length<=1000000):cw 187 [.sl 5 (mI l),I n,.agg (za0 x)] []=some (zat (eligB l n x)):=by
 refine zEq ?_;rw[c_Find hok l n hl hm,znT];unfold eligB
 cases h:zg4 l n with
 |none=>rfl
 |some q=>obtain⟨k,m⟩:=q;have hmem:=zav (fnd_at h).1;simp only[zhU,zaO,c_mayMark m x (hm m hmem),zas];rfl
def cells(x:aW):List AV:=(List.range 100).map λi=>.v (.pointer (x i))
def w0(s:zam)(ev:aA):tReg zbi zT 0 ⟨[(0,AV.agg [sE s.k,sH s.c,sG s.u,sP s.V,sK s.E,I s.H.x,I s.H.xi,I s.H.Z,I s.H.S]),(1,sC ev)],[]⟩=(some ⟨[(1,sC ev),(2,gQ 2 9)],[(2,pI s)]⟩):=by kernel_rfl
def w1(s:zam)(ev:aA):tReg zbi zT 1 ⟨[(1,sC ev),(2,gQ 2 9)],[(2,pI s)]⟩=(some ⟨[(1,sC ev),(2,gQ 2 9),(6,gQ 18 100)],[(2,pI s),(18,⟨100,221,[cells λ_=>none],true⟩)]⟩):=by kernel_rfl
def w2(s:zam)(ev:aA)(x:aW):tReg zbi zT 2 ⟨[(1,sC ev),(2,gQ 2 9),(6,gQ 18 100)],[(2,pI s),(18,⟨100,221,[cells x],true⟩)]⟩=(some ⟨[(1,sC ev),(2,gQ 2 9),(6,gQ 18 100),(20,sE s.k),(21,I ((↑(mI s.k).length:Int))),(22,I 0)],[(2,pI s),(18,⟨100,221,[cells x],true⟩)]⟩):=by kernel_rfl
def w3(s:zam)(ev:aA)(x:aW)(n:Int)(i:Int):tReg zbi zT 3 ⟨[(1,sC ev),(2,gQ 2 9),(6,gQ 18 100),(20,sE s.k),(21,I n),(22,I i)],[(2,pI s),(18,⟨100,221,[cells x],true⟩)]⟩=(some ⟨[(1,sC ev),(2,gQ 2 9),(6,gQ 18 100),(20,sE s.k),(21,I n),(22,I i),(23,B (decide (i<n)))],[(2,pI s),(18,⟨100,221,[cells x],true⟩)]⟩):=by kernel_rfl
def w4(s:zam)(ev:aA)(x:aW)(n:Int)(i:Int):tReg zbi zT 4 ⟨[(1,sC ev),(2,gQ 2 9),(6,gQ 18 100),(20,sE s.k),(21,I n),(22,I i)],[(2,pI s),(18,⟨100,221,[cells x],true⟩)]⟩=(chk ((0:Int)<=i)<|
 elemD zdT (mI s.k) i.toNat λ(c0:zbh) =>
 some ⟨[(1,sC ev),(2,gQ 2 9),(6,gQ 18 100),(8,gQ 8 5),(20,sE s.k),(21,I n),(22,I i)],[(2,pI s),(8,pX c0),(18,⟨100,221,[cells x],true⟩)]⟩):=by kernel_rfl
def w6(s:zam)(ev:aA)(x:aW)(n:Int)(i:Int):tReg zbi zT 6 ⟨[(1,sC ev),(2,gQ 2 9),(6,gQ 18 100),(20,sE s.k),(21,I n),(22,I i)],[(2,pI s),(18,⟨100,221,[cells x],true⟩)]⟩=(some ⟨[(1,sC ev),(2,gQ 2 9),(6,gQ 18 100),(20,sE s.k),(21,I n),(22,I (w64 (i+1)))],[(2,pI s),(18,⟨100,221,[cells x],true⟩)]⟩):=by kernel_rfl
def w7(s:zam)(ev:aA)(xs:aI):tReg zbi zT 7 ⟨[(1,sC ev),(2,gQ 2 9),(6,gQ 18 1)],[(2,pI s),(18,gC xs)]⟩=(some ⟨[(1,sC ev),(2,gQ 2 9),(6,gQ 18 1),(9,AV.map 37)],[(2,pI s),(18,gC xs),(37,⟨0,168,[],false⟩)]⟩):=by kernel_rfl
def w8(s:zam)(ev:aA)(xs:aI)(R:aI):tReg zbi zT 8 ⟨[(1,sC ev),(2,gQ 2 9),(6,gQ 18 1),(9,AV.map 37)],[(2,pI s),(18,gC xs),(37,gE R)]⟩=(some ⟨[(2,gQ 2 9),(6,gQ 18 1),(9,AV.map 37),(38,sC ev),(39,I ((↑(mA ev).length:Int))),(40,I 0)],[(2,pI s),(18,gC xs),(37,gE R)]⟩):=by kernel_rfl
def w9(s:zam)(ev:aA)(xs:aI)(R:aI)(n:Int)(i:Int):tReg zbi zT 9 ⟨[(2,gQ 2 9),(6,gQ 18 1),(9,AV.map 37),(38,sC ev),(39,I n),(40,I i)],[(2,pI s),(18,gC xs),(37,gE R)]⟩=(some ⟨[(2,gQ 2 9),(6,gQ 18 1),(9,AV.map 37),(38,sC ev),(39,I n),(40,I i),(41,B (decide (i<n)))],[(2,pI s),(18,gC xs),(37,gE R)]⟩):=by kernel_rfl
def w10(s:zam)(ev:aA)(xs:aI)(R:aI)(n:Int)(i:Int):tReg zbi zT 10 ⟨[(2,gQ 2 9),(6,gQ 18 1),(9,AV.map 37),(38,sC ev),(39,I n),(40,I i)],[(2,pI s),(18,gC xs),(37,gE R)]⟩=(chk ((0:Int)<=i)<|
 elemD za4 (mA ev) i.toNat λ(c0:zad) =>
 some ⟨[(2,gQ 2 9),(6,gQ 18 1),(9,AV.map 37),(11,gQ 11 9),(38,sC ev),(39,I n),(40,I i)],[(2,pI s),(11,pM c0),(18,gC xs),(37,gE R)]⟩):=by kernel_rfl
def w11(s:zam)(ev:aA)(xs:aI)(R:aI)(n:Int)(i:Int)(e:zad):tReg zbi zT 11 ⟨[(2,gQ 2 9),(6,gQ 18 1),(9,AV.map 37),(11,gQ 11 9),(38,sC ev),(39,I n),(40,I i)],[(2,pI s),(11,pM e),(18,gC xs),(37,gE R)]⟩=(some ⟨[(2,gQ 2 9),(6,gQ 18 1),(9,AV.map 37),(11,gQ 11 9),(38,sC ev),(39,I n),(40,I i),(45,I e.r)],[(2,pI s),(11,pM e),(18,gC xs),(37,gE R)]⟩):=by kernel_rfl
def w12(s:zam)(ev:aA)(xs:aI)(R:aI)(n:Int)(i:Int)(e:zad):tReg zbi zT 12 ⟨[(2,gQ 2 9),(6,gQ 18 1),(9,AV.map 37),(11,gQ 11 9),(38,sC ev),(39,I n),(40,I i),(45,I e.r)],[(2,pI s),(11,pM e),(18,gC xs),(37,gE R)]⟩=(some ⟨[(2,gQ 2 9),(6,gQ 18 1),(9,AV.map 37),(11,gQ 11 9),(38,sC ev),(39,I n),(40,I i),(45,I e.r),(46,B (e.r==1))],[(2,pI s),(11,pM e),(18,gC xs),(37,gE R)]⟩):=by kernel_rfl
def w13(s:zam)(ev:aA)(xs:aI)(R:aI)(n:Int)(i:Int)(e:zad):tReg zbi zT 13 ⟨[(2,gQ 2 9),(6,gQ 18 1),(9,AV.map 37),(11,gQ 11 9),(38,sC ev),(39,I n),(40,I i)],[(2,pI s),(11,pM e),(18,gC xs),(37,gE R)]⟩=(chk ((0:Int)<=e.q)<|
 chk ((e.q:Int)<(↑100:Int))<|
 elemP zlU xs (0+e.q.toNat) (some ⟨[(2,gQ 2 9),(6,gQ 18 1),(9,AV.map 37),(11,gQ 11 9),(12,AV.v (.pointer none)),(38,sC ev),(39,I n),(40,I i)],[(2,pI s),(11,pM e),(18,gC xs),(37,gE R)]⟩)
 (λ(p0:Addr)=>some ⟨[(2,gQ 2 9),(6,gQ 18 1),(9,AV.map 37),(11,gQ 11 9),(12,AV.v (.pointer (some p0))),(38,sC ev),(39,I n),(40,I i)],[(2,pI s),(11,pM e),(18,gC xs),(37,gE R)]⟩)
 λ(c1:zaF) =>
 some ⟨[(2,gQ 2 9),(6,gQ 18 1),(9,AV.map 37),(11,gQ 11 9),(12,AV.fp [I c1.N,sJ c1.marks,I c1.period,I c1.l.n,I c1.l.b,I c1.l.B,sL c1.R,AV.sl 1 (List.map nBool c1.watch.J),B c1.watch.p,I c1.good.n,I c1.good.b,I c1.good.B,B c1.some,sI c1.d]),(38,sC ev),(39,I n),(40,I i)],[(2,pI s),(11,pM e),(18,gC xs),(37,gE R)]⟩):=by kernel_rfl
def w14n(s:zam)(ev:aA)(xs:aI)(R:aI)(n:Int)(i:Int)(e:zad):tReg zbi zT 14 ⟨[(2,gQ 2 9),(6,gQ 18 1),(9,AV.map 37),(11,gQ 11 9),(12,AV.v (.pointer none)),(38,sC ev),(39,I n),(40,I i)],[(2,pI s),(11,pM e),(18,gC xs),(37,gE R)]⟩=(some ⟨[(2,gQ 2 9),(6,gQ 18 1),(9,AV.map 37),(11,gQ 11 9),(12,AV.v (.pointer none)),(38,sC ev),(39,I n),(40,I i),(55,B (!true))],[(2,pI s),(11,pM e),(18,gC xs),(37,gE R)]⟩):=by kernel_rfl
def w14p(s:zam)(ev:aA)(xs:aI)(R:aI)(n:Int)(i:Int)(e:zad)(p:Addr):tReg zbi zT 14 ⟨[(2,gQ 2 9),(6,gQ 18 1),(9,AV.map 37),(11,gQ 11 9),(12,AV.v (.pointer (some p))),(38,sC ev),(39,I n),(40,I i)],[(2,pI s),(11,pM e),(18,gC xs),(37,gE R)]⟩=(some ⟨[(2,gQ 2 9),(6,gQ 18 1),(9,AV.map 37),(11,gQ 11 9),(12,AV.v (.pointer (some p))),(38,sC ev),(39,I n),(40,I i),(55,B (!false))],[(2,pI s),(11,pM e),(18,gC xs),(37,gE R)]⟩):=by kernel_rfl
def w15(s:zam)(ev:aA)(xs:aI)(R:aI)(n:Int)(i:Int)(e:zad)(p:Addr)(d:zaF):tReg0 zbi zT 15 ⟨[(12,gQ 1300 14),(2,gQ 2 9),(6,gQ 18 1),(9,AV.map 37),(11,gQ 11 9),(12,AV.v (.pointer (some p))),(38,sC ev),(39,I n),(40,I i)],[(1300,⟨14,177,[[I d.N,gR 301 10 (mH d.marks),I d.period,I d.l.n,I d.l.b,I d.l.B,AV.map 302,AV.sl 1 (List.map nBool d.watch.J),B d.watch.p,I d.good.n,I d.good.b,I d.good.B,B d.some,gR 303 12 (mF d.d)]],true⟩),(301,gJ (mH d.marks)),(302,gK (mN d.R)),(303,gA (mF d.d)),(2,pI s),(11,pM e),(18,gC xs),(37,gE R)]⟩=(chk ((mH d.marks).length=(mH d.marks).length)<|
 chk ((mF d.d).length=(mF d.d).length)<|
 callD zeQ (cw 142 [gQ 1000 14,sX e.a] [(1000,⟨14,177,[[I d.N,AV.row 900 10 0 ((mH d.marks).length),I d.period,I d.l.n,I d.l.b,I d.l.B,AV.map 901,AV.sl 1 (List.map nBool d.watch.J),B d.watch.p,I d.good.n,I d.good.b,I d.good.B,B d.some,AV.row 902 12 0 ((mF d.d).length)]],true⟩),(900,gJ (mH d.marks)),(901,gK (mN d.R)),(902,gA (mF d.d))]) λ(r0:zaF) =>
 some ⟨[(59,AV.tup []),(58,AV.agg [I e.a.n,I e.a.b,I e.a.B]),(57,AV.loc 11 9 0 (0+0)),(56,gQ 1300 14),(12,gQ 1300 14),(2,gQ 2 9),(6,gQ 18 1),(9,AV.map 37),(11,gQ 11 9),(12,AV.v (.pointer (some p))),(38,sC ev),(39,I n),(40,I i)],[(301,gJ (mH r0.marks)),(302,gK (mN r0.R)),(303,gA (mF r0.d)),(1300,⟨14,177,[[I r0.N,gR 301 10 (mH r0.marks),I r0.period,I r0.l.n,I r0.l.b,I r0.l.B,AV.map 302,AV.sl 1 (List.map nBool r0.watch.J),B r0.watch.p,I r0.good.n,I r0.good.b,I r0.good.B,B r0.some,gR 303 12 (mF r0.d)]],true⟩),(2,pI s),(11,pM e),(18,gC xs),(37,gE R)]⟩):=by kernel_rfl
def w16(s:zam)(ev:aA)(xs:aI)(R:aI)(n:Int)(i:Int)(e:zad):tReg zbi zT 16 ⟨[(2,gQ 2 9),(6,gQ 18 1),(9,AV.map 37),(11,gQ 11 9),(38,sC ev),(39,I n),(40,I i),(45,I e.r)],[(2,pI s),(11,pM e),(18,gC xs),(37,gE R)]⟩=(some ⟨[(2,gQ 2 9),(6,gQ 18 1),(9,AV.map 37),(11,gQ 11 9),(38,sC ev),(39,I n),(40,I i),(45,I e.r),(60,B (e.r==2))],[(2,pI s),(11,pM e),(18,gC xs),(37,gE R)]⟩):=by kernel_rfl
def w17(s:zam)(ev:aA)(xs:aI)(R:aZ)(n:Int)(i:Int)(e:zad):tReg zbi zT 17 ⟨[(2,gQ 2 9),(6,gQ 18 1),(9,AV.map 37),(11,gQ 11 9),(38,sC ev),(39,I n),(40,I i)],[(2,pI s),(11,pM e),(18,gC xs),(37,gE (mL R))]⟩=(msetD zP 181 60 (AV.agg (zcM (⟨e.h,e.x⟩))) (sX e.a) (mL R) λ(m0:aI)=>some ⟨[(2,gQ 2 9),(6,gQ 18 1),(9,AV.map 37),(38,sC ev),(39,I n),(40,I i)],[(2,pI s),(18,gC xs),(37,gE m0)]⟩):=by kernel_rfl
def w18(s:zam)(ev:aA)(xs:aI)(R:aI)(n:Int)(i:Int)(e:zad):tReg zbi zT 18 ⟨[(2,gQ 2 9),(6,gQ 18 1),(9,AV.map 37),(11,gQ 11 9),(38,sC ev),(39,I n),(40,I i),(45,I e.r)],[(2,pI s),(11,pM e),(18,gC xs),(37,gE R)]⟩=(some ⟨[(2,gQ 2 9),(6,gQ 18 1),(9,AV.map 37),(11,gQ 11 9),(38,sC ev),(39,I n),(40,I i),(70,B (e.r==0))],[(2,pI s),(11,pM e),(18,gC xs),(37,gE R)]⟩):=by kernel_rfl
def w19(s:zam)(ev:aA)(xs:aI)(R:aI)(n:Int)(i:Int)(e:zad):tReg zbi zT 19 ⟨[(2,gQ 2 9),(6,gQ 18 1),(9,AV.map 37),(11,gQ 11 9),(38,sC ev),(39,I n),(40,I i)],[(2,pI s),(11,pM e),(18,gC xs),(37,gE R)]⟩=(chk (0<xs.length)<|
 callD zk3 (cw 143 [AV.fa 1 xs,sS s,sV e] []) λ(r0:Int×(Option Addr)) =>
 some ⟨[(2,gQ 2 9),(6,gQ 18 1),(9,AV.map 37),(11,gQ 11 9),(13,I r0.1),(14,AV.v (.pointer (r0.2))),(38,sC ev),(39,I n),(40,I i)],[(2,pI s),(11,pM e),(18,gC xs),(37,gE R)]⟩):=by kernel_rfl
def w20n(s:zam)(ev:aA)(xs:aI)(R:aI)(n:Int)(i:Int)(e:zad)(q:Int):tReg zbi zT 20 ⟨[(2,gQ 2 9),(6,gQ 18 1),(9,AV.map 37),(11,gQ 11 9),(13,I q),(14,AV.v (.pointer none)),(38,sC ev),(39,I n),(40,I i)],[(2,pI s),(11,pM e),(18,gC xs),(37,gE R)]⟩=(some ⟨[(2,gQ 2 9),(6,gQ 18 1),(9,AV.map 37),(11,gQ 11 9),(13,I q),(14,AV.v (.pointer none)),(38,sC ev),(39,I n),(40,I i),(80,B true)],[(2,pI s),(11,pM e),(18,gC xs),(37,gE R)]⟩):=by kernel_rfl
def w20p(s:zam)(ev:aA)(xs:aI)(R:aI)(n:Int)(i:Int)(e:zad)(q:Int)(p:Addr):tReg zbi zT 20 ⟨[(2,gQ 2 9),(6,gQ 18 1),(9,AV.map 37),(11,gQ 11 9),(13,I q),(14,AV.v (.pointer (some p))),(38,sC ev),(39,I n),(40,I i)],[(2,pI s),(11,pM e),(18,gC xs),(37,gE R)]⟩=(some ⟨[(2,gQ 2 9),(6,gQ 18 1),(9,AV.map 37),(11,gQ 11 9),(13,I q),(14,AV.v (.pointer (some p))),(38,sC ev),(39,I n),(40,I i),(80,B false)],[(2,pI s),(11,pM e),(18,gC xs),(37,gE R)]⟩):=by kernel_rfl
def w21(s:zam)(ev:aA)(xs:aI)(R:aI)(n:Int)(i:Int)(e:zad)(q:Int)(p:Addr):tReg zbi zT 21 ⟨[(2,gQ 2 9),(6,gQ 18 1),(9,AV.map 37),(11,gQ 11 9),(13,I q),(14,AV.v (.pointer (some p))),(38,sC ev),(39,I n),(40,I i)],[(2,pI s),(11,pM e),(18,gC xs),(37,gE R)]⟩=(callD zok (cw 144 [sS s,I e.h] []) λ(r0:GSeed×Bool)=>some ⟨[(2,gQ 2 9),(6,gQ 18 1),(9,AV.map 37),(11,gQ 11 9),(13,I q),(14,AV.v (.pointer (some p))),(15,gQ 15 2),(16,B r0.2),(38,sC ev),(39,I n),(40,I i)],[(2,pI s),(11,pM e),(15,pU r0.1),(18,gC xs),(37,gE R)]⟩):=by kernel_rfl
def w22(s:zam)(ev:aA)(xs:aI)(R:aI)(n:Int)(i:Int)(e:zad)(q:Int)(p:Addr)(sd:GSeed)(b:Bool):tReg zbi zT 22 ⟨[(2,gQ 2 9),(6,gQ 18 1),(9,AV.map 37),(11,gQ 11 9),(13,I q),(14,AV.v (.pointer (some p))),(15,gQ 15 2),(16,B b),(38,sC ev),(39,I n),(40,I i)],[(2,pI s),(11,pM e),(15,pU sd),(18,gC xs),(37,gE R)]⟩=(some ⟨[(2,gQ 2 9),(6,gQ 18 1),(9,AV.map 37),(11,gQ 11 9),(13,I q),(14,AV.v (.pointer (some p))),(15,gQ 15 2),(38,sC ev),(39,I n),(40,I i),(88,B b)],[(2,pI s),(11,pM e),(15,pU sd),(18,gC xs),(37,gE R)]⟩):=by kernel_rfl
def w23(s:zam)(ev:aA)(xs:aI)(R:aI)(n:Int)(i:Int)(e:zad)(q:Int)(p:Addr)(sd:GSeed)(d:zaF):tReg0 zbi zT 23 ⟨[(14,gQ 1300 14),(2,gQ 2 9),(6,gQ 18 1),(9,AV.map 37),(11,gQ 11 9),(13,I q),(14,AV.v (.pointer (some p))),(15,gQ 15 2),(38,sC ev),(39,I n),(40,I i)],[(1300,⟨14,177,[[I d.N,gR 301 10 (mH d.marks),I d.period,I d.l.n,I d.l.b,I d.l.B,AV.map 302,AV.sl 1 (List.map nBool d.watch.J),B d.watch.p,I d.good.n,I d.good.b,I d.good.B,B d.some,gR 303 12 (mF d.d)]],true⟩),(301,gJ (mH d.marks)),(302,gK (mN d.R)),(303,gA (mF d.d)),(2,pI s),(11,pM e),(15,pU sd),(18,gC xs),(37,gE R)]⟩=(chk ((0:Int)<=q)<|
 elemD zcZ (mJ s.u) q.toNat λ(c0:zaQ) =>
 chk ((mH d.marks).length=(mH d.marks).length)<|
 chk ((mF d.d).length=(mF d.d).length)<|
 callD zeQ (cw 145 [gQ 1000 14,sS s,sT c0,AV.agg (zcL sd),sV e] [(1000,⟨14,177,[[I d.N,AV.row 900 10 0 ((mH d.marks).length),I d.period,I d.l.n,I d.l.b,I d.l.B,AV.map 901,AV.sl 1 (List.map nBool d.watch.J),B d.watch.p,I d.good.n,I d.good.b,I d.good.B,B d.some,AV.row 902 12 0 ((mF d.d).length)]],true⟩),(900,gJ (mH d.marks)),(901,gK (mN d.R)),(902,gA (mF d.d))]) λ(r1:zaF) =>
 some ⟨[(98,AV.tup []),(97,AV.agg [I e.a.n,I e.a.b,I e.a.B,I e.r,I e.h,I e.x,I e.s,I e.q,AV.sl 1 (List.map zah e.A)]),(96,AV.agg [I sd.h,AV.sl 1 (List.map zah sd.T)]),(95,AV.agg [I c0.Y,I c0.L,sN c0.g]),(94,AV.fp [I c0.Y,I c0.L,sN c0.g]),(93,I q),(92,sG s.u),(91,AV.loc 2 9 0 (0+2)),(90,AV.agg [sE s.k,sH s.c,sG s.u,sP s.V,sK s.E,I s.H.x,I s.H.xi,I s.H.Z,I s.H.S]),(89,gQ 1300 14),(14,gQ 1300 14),(2,gQ 2 9),(6,gQ 18 1),(9,AV.map 37),(11,gQ 11 9),(13,I q),(14,AV.v (.pointer (some p))),(15,gQ 15 2),(38,sC ev),(39,I n),(40,I i)],[(301,gJ (mH r1.marks)),(302,gK (mN r1.R)),(303,gA (mF r1.d)),(1300,⟨14,177,[[I r1.N,gR 301 10 (mH r1.marks),I r1.period,I r1.l.n,I r1.l.b,I r1.l.B,AV.map 302,AV.sl 1 (List.map nBool r1.watch.J),B r1.watch.p,I r1.good.n,I r1.good.b,I r1.good.B,B r1.some,gR 303 12 (mF r1.d)]],true⟩),(2,pI s),(11,pM e),(15,pU sd),(18,gC xs),(37,gE R)]⟩):=by kernel_rfl
def w24(s:zam)(ev:aA)(xs:aI)(R:aI)(n:Int)(i:Int)(e:zad)(q:Int)(p:Addr)(sd:GSeed)(d:zaF):tReg0 zbi zT 24 ⟨[(14,gQ 1300 14),(2,gQ 2 9),(6,gQ 18 1),(9,AV.map 37),(11,gQ 11 9),(13,I q),(14,AV.v (.pointer (some p))),(15,gQ 15 2),(38,sC ev),(39,I n),(40,I i)],[(1300,⟨14,177,[[I d.N,gR 301 10 (mH d.marks),I d.period,I d.l.n,I d.l.b,I d.l.B,AV.map 302,AV.sl 1 (List.map nBool d.watch.J),B d.watch.p,I d.good.n,I d.good.b,I d.good.B,B d.some,gR 303 12 (mF d.d)]],true⟩),(301,gJ (mH d.marks)),(302,gK (mN d.R)),(303,gA (mF d.d)),(2,pI s),(11,pM e),(15,pU sd),(18,gC xs),(37,gE R)]⟩=(chk ((mH d.marks).length=(mH d.marks).length)<|
 chk (((mH d.marks).length+1)*(96+1)<=1099511627776)<|
 some ⟨[(114,AV.loc 1300 14 0 (0+1)),(113,gQ 1300 14),(112,gR 112 10 ((mH d.marks)++([[I e.a.n,I e.a.b,I e.a.B,I e.r,I e.h,I e.x,I e.s,I e.q,AV.sl 1 (List.map zah e.A),B d.watch.p]]))),(111,AV.sl 10 ([[I e.a.n,I e.a.b,I e.a.B,I e.r,I e.h,I e.x,I e.s,I e.q,AV.sl 1 (List.map zah e.A),B d.watch.p]])),(110,AV.agg [I e.a.n,I e.a.b,I e.a.B,I e.r,I e.h,I e.x,I e.s,I e.q,AV.sl 1 (List.map zah e.A),B d.watch.p]),(109,B d.watch.p),(108,AV.loc 1300 14 0 (0+7+1)),(107,AV.loc 1300 14 0 (0+7)),(106,gQ 1300 14),(105,gQ 1300 14),(104,AV.agg [I e.a.n,I e.a.b,I e.a.B,I e.r,I e.h,I e.x,I e.s,I e.q,AV.sl 1 (List.map zah e.A)]),(103,.bot),(102,AV.loc 1300 14 0 (0+1)),(101,gQ 1300 14),(100,gQ 1300 14),(99,gQ 1300 14),(14,gQ 1300 14),(2,gQ 2 9),(6,gQ 18 1),(9,AV.map 37),(11,gQ 11 9),(13,I q),(14,AV.v (.pointer (some p))),(15,gQ 15 2),(38,sC ev),(39,I n),(40,I i)],[(112,⟨10,229,(mH d.marks)++([zaM (⟨⟨⟨e.a.n,e.a.b,e.a.B⟩,e.r,e.h,e.x,e.s,e.q,e.A⟩,d.watch.p⟩)]),false⟩),(1300,⟨14,177,[[I d.N,gR 112 10 ((mH d.marks)++([[I e.a.n,I e.a.b,I e.a.B,I e.r,I e.h,I e.x,I e.s,I e.q,AV.sl 1 (List.map zah e.A),B d.watch.p]])),I d.period,I d.l.n,I d.l.b,I d.l.B,AV.map 302,AV.sl 1 (List.map nBool d.watch.J),B d.watch.p,I d.good.n,I d.good.b,I d.good.B,B d.some,gR 303 12 (mF d.d)]],true⟩),(302,gK (mN d.R)),(303,gA (mF d.d)),(2,pI s),(11,pM e),(15,pU sd),(18,gC xs),(37,gE R)]⟩):=by kernel_rfl
def w25(s:zam)(ev:aA)(xs:aI)(R:aI)(n:Int)(i:Int):tReg zbi zT 25 ⟨[(2,gQ 2 9),(6,gQ 18 1),(9,AV.map 37),(38,sC ev),(39,I n),(40,I i)],[(2,pI s),(18,gC xs),(37,gE R)]⟩=(some ⟨[(2,gQ 2 9),(6,gQ 18 1),(9,AV.map 37),(38,sC ev),(39,I n),(40,I (w64 (i+1)))],[(2,pI s),(18,gC xs),(37,gE R)]⟩):=by kernel_rfl
def w26(xs:aI)(R:aI):tReg zbi zT 26 ⟨[(6,gQ 18 1),(9,AV.map 37)],[(18,gC xs),(37,gE R)]⟩=(some ⟨[(4,gQ 18 1),(5,AV.map 37)],[(18,gC xs),(37,gE R)]⟩):=by kernel_rfl
def below_succ{p:aB}{n:Nat}(h:∀k,k<n->p k)(hn:p n):∀k,k<n+1->p k:=λk hk=>by
 rcases Nat.lt_succ_iff_lt_or_eq.1 hk with q|q
 .exact h k q
 .rw[q];exact hn
def w5:∀k:Nat,k<100->∀(s:zam) (ev:aA) (x:aW) (n:Int) (i:Int) (c:Int) (l:Int) (cap:Int) (ps:aC),tReg zbi zT 5 ⟨[(1,sC ev),(2,gQ 2 9),(6,gQ 18 100),(8,gQ 8 5),(20,sE s.k),(21,I n),(22,I i)],[(2,pI s),(8,pX (⟨(k:Int),c,l,cap,ps⟩)),(18,⟨100,221,[cells x],true⟩)]⟩=(some ⟨[(1,sC ev),(2,gQ 2 9),(6,gQ 18 100),(20,sE s.k),(21,I n),(22,I i)],[(2,pI s),(18,⟨100,221,[(cells x).set k (gQ 33 14)],true⟩),(33,⟨14,177,[[I l,AV.row 301 10 0 0,I 0,I 0,I 0,I 0,AV.map 302,AV.sl 1 [],B false,I 0,I 0,I 0,B false,AV.row 303 12 0 0]],true⟩),(301,⟨10,229,[],false⟩),(302,⟨0,173,[],false⟩),(303,⟨12,147,[],false⟩)]⟩):=by
 repeat(first|exact λ_ h=>absurd h (Nat.not_lt_zero _)|refine below_succ ?_ ?_)
 all_goals intros;kernel_rfl
def wkC:Code:=(zbi.fn.body).getD .skip
def wkO(j:Nat):Array Oper:=opsAt j wkC
def wkD(j:Nat):Bool:=ztI j wkC
def wk_hb:zbi.fn.body=some wkC:=by kernel_rfl
def wk_shape:wkC=(.seq (.region 0 (wkO 0) (wkD 0)) (.seq (.region 1 (wkO 1) (wkD 1)) (.seq (.seq (.region 2 (wkO 2) (wkD 2)) (.block 0 (.loop (.seq (.region 3 (wkO 3) (wkD 3)) (.seq (.cond (.tmp 23) .skip (.exit 0)) (.seq (.block 1 (.seq (.region 4 (wkO 4) (wkD 4)) (.region 5 (wkO 5) (wkD 5)))) (.region 6 (wkO 6) (wkD 6)))))))) (.seq (.region 7 (wkO 7) (wkD 7)) (.seq (.seq (.region 8 (wkO 8) (wkD 8)) (.block 2 (.loop (.seq (.region 9 (wkO 9) (wkD 9)) (.seq (.cond (.tmp 41) .skip (.exit 2)) (.seq (.block 3 (.seq (.region 10 (wkO 10) (wkD 10)) (.seq (.region 11 (wkO 11) (wkD 11)) (.block 4 (.seq (.region 12 (wkO 12) (wkD 12)) (.cond (.tmp 46) (.seq (.region 13 (wkO 13) (wkD 13)) (.seq (.region 14 (wkO 14) (wkD 14)) (.cond (.tmp 55) (.region 15 (wkO 15) (wkD 15)) .skip))) (.seq (.region 16 (wkO 16) (wkD 16)) (.cond (.tmp 60) (.region 17 (wkO 17) (wkD 17)) (.seq (.region 18 (wkO 18) (wkD 18)) (.cond (.tmp 70) (.seq (.region 19 (wkO 19) (wkD 19)) (.seq (.seq (.region 20 (wkO 20) (wkD 20)) (.cond (.tmp 80) (.exit 3) .skip)) (.seq (.region 21 (wkO 21) (wkD 21)) (.seq (.region 22 (wkO 22) (wkD 22)) (.cond (.tmp 88) (.region 23 (wkO 23) (wkD 23)) (.region 24 (wkO 24) (wkD 24))))))) .skip)))))))))) (.region 25 (wkO 25) (wkD 25)))))))) (.seq (.region 26 (wkO 26) (wkD 26)) .ret)))))):=by kernel_rfl
def wk_r15:regOf 15 wkC=some (.region 15 (wkO 15) (wkD 15)):=by kernel_rfl
def wk_r23:regOf 23 wkC=some (.region 23 (wkO 23) (wkD 23)):=by kernel_rfl
def wk_r24:regOf 24 wkC=some (.region 24 (wkO 24) (wkD 24)):=by kernel_rfl
def wk_n:zbi.fn.ntmps<=1000:=by decide
section
variable{w0:World}{S0:aB}{κ0:Kap}{K:aB}{S S':aB}{κ κ':Kap}{a:Act}{w w':World}
def wkStep{j:Nat}{st st':St}{M:Nat->Option Mem}{κd:Nat->Kap}(ht:tReg zbi zT j st=some st')
  (h:Now w0 S0 κ0 K zbi.fn.ntmps M κd st a w) {Q:aO} (hQ:∀a' w',Now w0 S0 κ0 K zbi.fn.ntmps M κd st' a' w'->Q .normal a' w') (hr:regOf j wkC=some (.region j (wkO j) (wkD j)):=by kernel_rfl):(Code.region j (wkO j) (wkD j)).wp zbi.P Q a w:=by
 obtain⟨S,κ,h1,h2⟩:=h;exact leafR wk_hb hr ht wk_n h1 (λa' w' S' κ' hg hS hf hw=>hQ a' w' ⟨S',κ',hg,h2.step hS hf hw⟩)
end
abbrev deskM(d:zaF):Mem:=[(300,⟨14,177,[[I d.N,.row 301 10 0 ((mH d.marks).length),I d.period,I d.l.n,I d.l.b,I d.l.B,.map 302,AV.sl 1 (List.map nBool d.watch.J),B d.watch.p,I d.good.n,I d.good.b,I d.good.B,B d.some,.row 303 12 0 ((mF d.d).length)]],true⟩),(301,gJ (mH d.marks)),(302,gK (mN d.R)),(303,gA (mF d.d))]
abbrev mems(ds:Desks):Nat->Option Mem:=λi=>(ds i).map deskM
def Points(ds:Desks)(κd:Nat->Kap)(x:aW):Prop:=∀i,i<100->match ds i with
 |none=>x i=none
 |some _=>∃g c,κd i 300=some (g,c)/\x i=some ⟨g,0,none⟩
section
abbrev tH(s:zam)(ev:aA)(i:Int):Tab:=[(1,sC ev),(2,gQ 2 9),(6,gQ 18 100),(20,sE s.k),(21,I ((mI s.k).length:Int)),(22,I i)]
abbrev bS(s:zam):Nat×Ent:=(2,pI s)
abbrev bB(x:aW):Nat×Ent:=(18,⟨100,221,[cells x],true⟩)
abbrev stH(s:zam)(ev:aA)(x:aW)(i:Int):St:=⟨tH s ev i,[bS s,bB x]⟩
abbrev m5(s:zam)(l:Int)(cs:aH):Mem:=[bS s,(18,⟨100,221,[cs],true⟩),(33,⟨14,177,[[I l,.row 301 10 0 0,I 0,I 0,I 0,I 0,.map 302,AV.sl 1 [],B false,I 0,I 0,I 0,B false,.row 303 12 0 0]],true⟩),(301,⟨10,229,[],false⟩),(302,⟨0,173,[],false⟩),(303,⟨12,147,[],false⟩)]
def zCW(x:aW)(j:Nat)(hj:j<100):(cells x)[j]?=some (.v (.pointer (x j))):=by
 unfold cells
 simp_all
def cells_set(x:aW)(k:Nat)(p:Option Addr):(cells x).set k (.v (.pointer p))=cells λi=>if i=k then p else x i:=by
 refine zc6 λj=>?_
 by_cases hj:j<100
 . rw[zCW _ _ hj,zgh];by_cases h:k=j
   . subst h;have hl:k<(cells x).length:=by unfold cells;simpa using hj
     simp[hl]
   .rw[if_neg h,zCW _ _ hj,if_neg (λe=>h e.symm)]
 . have h1:∀y,(cells y).length=100:=λy=>by unfold cells;simp
   simp_all
section
variable{w0:World}{S0:aB}{κ0:Kap}{K:aB}{N:Nat}{a:Act}{w:World}
def wk_new{s:zam}{ev:aA}{i l:Int}{x:aW}{ds:Desks}{κd:Nat->Kap}{k:Nat}(hk:k<100)
  (h:Now w0 S0 κ0 K N (mems ds) κd ⟨tH s ev i,m5 s l ((cells x).set k (.loc 33 14 0 0))⟩ a w) (hp:Points ds κd x):∃κd' x',Now w0 S0 κ0 K N (mems (upd ds k (desk0 l))) κd' (stH s ev x' i) a w/\Points (upd ds k (desk0 l)) κd' x':=by
 obtain⟨S,κ,hg,ho⟩:=h
 have h33:∃g c,κ 33=some (g,c):=by
  have hE:=hg.ents 33 _ rfl
  cases hq:κ 33 with
  |some gc=>grind
  |none=>rw[hq]at hE;have:=(hE.1 (.inl rfl)).2.2;cases this
 obtain⟨g,c,hκ⟩:=h33;have hl:k<(cells x).length:=by unfold cells;simpa using hk
 have g1:GoodS w0 S0 κ0 K N S κ ⟨tH s ev i,m5 s l (cells λi=>if i=k then some ⟨g,0,none⟩else x i)⟩ a w:=by
  have q:=Good.recell (B:=18) (j:=k) (cs:=(cells x).set k (.loc 33 14 0 0)) (a0:=.loc 33 14 0 0) (a1:=.v (.pointer (some ⟨g,0,none⟩))) hg rfl rfl rfl (by simp[hl]) (λv hv=>by
   obtain⟨g',c',_,hk',rfl⟩:=hv.loc_inv;rw[hκ]at hk';injection hk' with hk';injection hk' with e1 _;subst e1
   exact .c (.v _))
  have e:(λb=>if b=18 then some ({ z:=100,e:=221,es:=[((cells x).set k (.loc 33 14 0 0)).set k (.v (.pointer (some ⟨g,0,none⟩)))],box:=true }:Ent)else Ab.look (m5 s l ((cells x).set k (.loc 33 14 0 0))) b)=Ab.look (m5 s l (cells λi=>if i=k then some ⟨g,0,none⟩else x i)):=by
   funext b;rw[List.set_set,cells_set];simp only[m5,bS,Ab.look];by_cases h2:b=2
   .simp[h2]
   .simp_all
  unfold GoodS;rw[<-e];exact q
 have o1:Objs w0 κ0 K S κ (Ab.look (m5 s l (cells λi=>if i=k then some ⟨g,0,none⟩else x i))) w (mems ds) κd:=ho.kap (λb g c hl hk=>⟨b,c,by
  simp only[m5,bS,Ab.look]at hl ⊢
  grind,hk⟩)
 have g2:=g1.ren (b:=33) (s:=300) (by omega) (by omega) (by omega) rfl;have e2:renS 33 300 ⟨tH s ev i,m5 s l (cells λi=>if i=k then some ⟨g,0,none⟩else x i)⟩=⟨tH s ev i,[bS s,bB (λi=>if i=k then some ⟨g,0,none⟩else x i)]++deskM (desk0 l)⟩:=by kernel_rfl
 rw[e2]at g2
 have o2:Objs w0 κ0 K S (λc=>if c=300 then κ 33 else κ c) (Ab.look ([bS s,bB (λi=>if i=k then some ⟨g,0,none⟩else x i)]++deskM (desk0 l))) w (mems ds) κd:=o1.kap (λb g c hl hk=>by
  by_cases hb:b=300
  .rw[if_pos hb]at hk;exact⟨33,c,rfl,hk⟩
  . rw[if_neg hb]at hk;refine⟨b,c,?_,hk⟩;simp only[zg5,zfp,m5,bS,bB,deskM,Ab.look]at hl ⊢
    grind)
 have g3:=g2.trim [1,2,6,20,21,22] [300,301,302,303];have e3:trim [1,2,6,20,21,22] [300,301,302,303] ⟨tH s ev i,[bS s,bB (λi=>if i=k then some ⟨g,0,none⟩else x i)]++deskM (desk0 l)⟩=stH s ev (λi=>if i=k then some ⟨g,0,none⟩else x i) i:=by kernel_rfl
 rw[e3]at g3
 have o3:=o2.away (i:=k) (md:=deskM (desk0 l)) (L':=Ab.look [bS s,bB (λi=>if i=k then some ⟨g,0,none⟩else x i)]) g2 (λb ent hb=>by
   simp only[zg5,zfp,bS,bB,deskM,Ab.look]at hb ⊢
   grind) (zNm (by kernel_rfl)) (λb hb=>by
   simp only[deskM,Ab.look]at hb
   grind) (λb hb=>by
   simp only[bS,bB,Ab.look]at hb
   repeat' split at hb
   all_goals first|(subst_vars;exact⟨rfl,λh=>by cases h⟩)|cases hb)
 have e4:(λj=>if j=k then some (deskM (desk0 l))else mems ds j)=mems (upd ds k (desk0 l)):=by funext j;simp only[mems,upd];split<;>rfl
 rw[e4]at o3;refine⟨_,_,⟨S,_,g3,o3⟩,λj hj=>?_⟩;simp only[upd];by_cases hjk:j=k
 .simp_all
 .simp only[if_neg hjk];exact hp j hj
def zDT{M:Nat->Option Mem}{κd:Nat->Kap}{st:St}(h:Now w0 S0 κ0 K N M κd st a w){k:Nat}{n:Int}(hk:get st.t k=I n):cnt a k=n.toNat:=by obtain⟨S,κ,h1,_⟩:=h;have:=h1.slots k;rw[hk]at this;unfold cnt;rw[this.v_inv]
def wk_markers{s:zam}{ev:aA}(hm:∀m∈s.k,0<=m.ID/\m.ID<100)(hlen:s.k.length<1000000){κd0:Nat->Kap}
  (h:Now w0 S0 κ0 K zbi.fn.ntmps (λ_=>none) κd0 (stH s ev (λ_=>none) 0) a w) {Q:aO}
  (hQ:∀a' w' κd x,Now w0 S0 κ0 K zbi.fn.ntmps (mems (seats s.k)) κd (stH s ev x s.k.length) a' w'->Points (seats s.k) κd x->Q .normal a' w'):(Code.block 0 (.loop (.seq (.region 3 (wkO 3) (wkD 3)) (.seq (.cond (.tmp 23) .skip (.exit 0)) (.seq (.block 1 (.seq (.region 4 (wkO 4) (wkD 4)) (.region 5 (wkO 5) (wkD 5)))) (.region 6 (wkO 6) (wkD 6))))))).wp zbi.P Q a w:=by
 refine wp_block (wp_loop (λa w=>∃k κd x,k<=s.k.length/\Now w0 S0 κ0 K zbi.fn.ntmps (mems (seats (s.k.take k))) κd (stH s ev x k) a w/\Points (seats (s.k.take k)) κd x)
  (λa _=>s.k.length-cnt a 22) ⟨0,κd0,_,zc4 _,h,λ_ _=>rfl⟩ ?_)
 rintro a w ⟨k,κd,x,hk,hn,hp⟩
 have hc0:cnt a 22=k:=by rw[zDT hn (n:=(k:Int)) rfl];simp
 refine wp_seq (wkStep (w3 s ev x _ _) hn (λa1 w1 h1=>?_));refine wp_seq (wp_cond (h1.bool (b:=decide ((k:Int)<(mI s.k).length)) rfl) ?_);by_cases hlt:k<s.k.length
 . rw[decide_eq_true (by simp;omega),if_pos rfl];refine wp_skip ?_;have h2:=h1.trim [1,2,6,20,21,22] [] (st':=stH s ev x k) (by kernel_rfl);refine wp_seq (wp_block (wp_seq ?_));have ht4:=w4 s ev x ((mI s.k).length:Int) (k:Int);rw[cPQ,ze0,show((k:Int)).toNat=k from rfl,zaa hlt,zae]at ht4;refine wkStep ht4 h2 (λa3 w3 h3=>?_);obtain⟨hm0,hm1⟩:=hm _ (zau hlt);generalize hmk:s.k[k]=m at h3 hm0 hm1;obtain⟨id,cen,lev,cap,ps⟩:=m;obtain⟨q,rfl⟩:∃q:Nat,id=(q:Int):=⟨id.toNat,by grind⟩
   have hq:q<100:=by simp only at hm1;omega
   refine wkStep (w5 q hq s ev x _ _ cen lev cap ps) h3 (λa4 w4 h4=>?_);obtain⟨κd',x',h5,hp'⟩:=wk_new hq h4 hp;refine wkStep (w6 s ev x' _ _) h5 (λa6 w6 h6=>?_);rw[w6Q]at h6
   have e:seats (s.k.take (k+1))=upd (seats (s.k.take k)) q (desk0 lev):=by rw[zbP hlt,hmk];simp[seats]
   refine⟨⟨k+1,κd',x',hlt,by rw[e];exact_mod_cast h6,by rw[e];exact hp'⟩,?_⟩;have:cnt a6 22=k+1:=by rw[zDT h6 (n:=(k:Int)+1) rfl];omega
   omega
 . rw[decide_eq_false (by simp;omega),iNs];refine wp_exit ?_;have hkl:k=s.k.length:=by omega
   subst hkl;rw[zcR]at h1 hp;exact hQ _ _ _ _ (h1.trim [1,2,6,20,21,22] [] (by kernel_rfl)) hp
end
end
section
def rows(x:aW):List (List AV):=(List.range 100).map λi=>[.v (.pointer (x i))]
def zt8(x:aW)(j:Nat)(hj:j<100):(rows x)[j]?=some [.v (.pointer (x j))]:=by
 unfold rows
 simp_all
abbrev bA(x:aW):Nat×Ent:=(18,gC (rows x))
abbrev bR(R:aZ):Nat×Ent:=(37,gE (mL R))
abbrev bE(e:zad):Nat×Ent:=(11,pM e)
abbrev bD(sd:GSeed):Nat×Ent:=(15,pU sd)
section
variable{w0:World}{S0:aB}{κ0:Kap}{K:aB}{N:Nat}{a:Act}{w:World}
def wk_toRow{s:zam}{ev:aA}{x:aW}{M:Nat->Option Mem}{κd:Nat->Kap}{i:Int}(h:Now w0 S0 κ0 K N M κd (stH s ev x i) a w):Now w0 S0 κ0 K N M κd ⟨[(1,sC ev),(2,gQ 2 9),(6,.loc 18 1 0 0)],[bS s,bA x]⟩ a w:=by
 obtain⟨S,κ,hg,ho⟩:=h
 have h18:∃g c,κ 18=some (g,c):=by
  have hE:=hg.ents 18 _ rfl
  cases hq:κ 18 with
  |some gc=>grind
  |none=>rw[hq]at hE;have:=(hE.1 (.inl rfl)).2.2;cases this
 obtain⟨g,c,hκ⟩:=h18;have hE:=hg.ents 18 _ rfl;rw[hκ]at hE
 have h6:a.tmps.getD 6 undef=.pointer (some ⟨g,0,none⟩):=by obtain⟨g',c',_,hk',e⟩:=(show VRel _ _ _ _ (.loc 18 100 0 0) _ from hg.slots 6).loc_inv;rw[hκ]at hk';injection hk' with hk';injection hk' with e1 _;subst e1;simpa using e
 have hl:(cells x).length=100:=by unfold cells;simp
 have hrow:=toRow hE (by unfold maxLen;omega) (xs:=rows x) (by rw[hl];unfold rows;simp) (λj y u hj hv=>by
  have hj':j<100:=by rw[<-hl];exact(zao.1 hj).1
  rw[zCW x j hj']at hj;injection hj with hj;subst hj
  rw[hv.v_inv,zt8 x j hj'])
 have g1:=hg.swap (B:=18) (c2:=100) rfl (by omega) hκ hrow;have o1:=ho.swap (B:=18) (c2:=100) (e2:=gC (rows x)) rfl hκ
 have g2:=g1.set 6 (.loc 18 1 0 0) (by
  rw[h6];have:=VRel.loc (S:=S) (κ:=overK κ (λ_=>some (g,100)) (Ab.look [(18,gC (rows x))])) (D:=λb=>(Ab.look ((18,gC (rows x))::(del 18 (stH s ev x i)).m) b).isSome=true) (w:=w) 18 1 0 0 g 100 (by simp[Ab.look]) (by unfold overK;simp[Ab.look])
  simpa using this)
 exact Now.trim ⟨S,_,g2,o1⟩ [1,2,6] [] (by kernel_rfl)
abbrev e0D(d:zaF):Ent:=⟨14,177,[[I d.N,.row 301 10 0 ((mH d.marks).length),I d.period,I d.l.n,I d.l.b,I d.l.B,.map 302,AV.sl 1 (List.map nBool d.watch.J),B d.watch.p,I d.good.n,I d.good.b,I d.good.B,B d.some,.row 303 12 0 ((mF d.d).length)]],true⟩
abbrev mrD(d:zaF):Mem:=[(301,gJ (mH d.marks)),(302,gK (mN d.R)),(303,gA (mF d.d))]
abbrev deskB(d:zaF):Mem:=(1300,e0D d)::mrD d
def zGt{d:zaF}{b:Nat}(h:(Ab.look (mrD d) b).isSome=true):300<b/\b<304:=by
 simp only[mrD,Ab.look]at h
 grind
def mrD_only(d:zaF)(Bn b:Nat)(ent:Ent)(h:Ab.look ((Bn,e0D d)::mrD d) b=some ent)(hbx:ent.box=true):∀cs∈ent.es,∀x∈cs,only ((mrD d).map (·.1)) x=true:=by
 simp only[mrD,Ab.look]at h
 repeat' split at h
 all_goals first|cases h|skip
 . have e:∀cs∈(e0D d).es,∀x∈cs,only ((mrD d).map (·.1)) x=true:=λcs hcs x hx=>by simp only[e0D,zcH]at hcs;subst hcs;have:∀x∈[I d.N,.row 301 10 0 ((mH d.marks).length),I d.period,I d.l.n,I d.l.b,I d.l.B,.map 302,AV.sl 1 (List.map nBool d.watch.J),B d.watch.p,I d.good.n,I d.good.b,I d.good.B,B d.some,.row 303 12 0 ((mF d.d).length)],only [301,302,303] x=true:=zbV.1 (by kernel_rfl);exact this x hx
   exact e
 all_goals cases hbx
def wk_desk{j k0 i:Nat}{t:Tab}{m:Mem}{st1 st2 stN:St}{d d':zaF}{x:aW}{ds:Desks}{κd:Nat->Kap}(hr:regOf j wkC=some (.region j (wkO j) (wkD j)))
  (hn:Now w0 S0 κ0 K zbi.fn.ntmps (mems ds) κd ⟨t,m⟩ a w) (hp:Points ds κd x) (hi:i<100) (hd:ds i=some d) (hk0:get t k0=.v (.pointer (x i))) (hm:∀b,(Ab.look m b).isSome=true->b<300)
  (ht:tReg0 zbi zT j ⟨(k0,.loc 1300 14 0 0)::t,deskB d++m⟩=some st1) (h12:st2=st1\/(st2=renS 112 301 st1/\Ab.look st1.m 301=none))
  (hd':∀b ent,Ab.look (deskB d') b=some ent->Ab.look st2.m b=some ent) (ks drop:aF) (e:trim ks drop st2=stN) (hN:∀b,(Ab.look stN.m b).isSome=true->b<300)
  {Q:aO} (hQ:∀a' w' κd',Now w0 S0 κ0 K zbi.fn.ntmps (mems (upd ds i d')) κd' stN a' w'->Points (upd ds i d') κd' x->Q .normal a' w'):(Code.region j (wkO j) (wkD j)).wp zbi.P Q a w:=by
 obtain⟨S,κ,hg,ho⟩:=hn;have hi':mems ds i=some ((300,e0D d)::mrD d):=by simp[mems,hd]
 have hpi:=hp i hi;rw[hd]at hpi;obtain⟨g,c,hκ,hx⟩:=hpi
 have hk0':a.tmps.getD k0 undef=.pointer (some ⟨g,0,none⟩):=by have:=hg.slots k0;rw[hk0,hx]at this;exact this.v_inv
 have hmr:∀b,(Ab.look (mrD d) b).isSome=true->b<1000/\b≠300/\Ab.look m b=none:=λb hb=>by
  obtain⟨q1,q2⟩:=zGt hb;refine⟨by omega,by omega,?_⟩
  cases hq:Ab.look m b with
  |none=>rfl
  |some e=>grind
 have hm':∀b,(Ab.look m b).isSome=true->b<1000:=λb hb=>by have:=hm b hb;omega
 have h1:=hg.lend (B:=300) (ho.obj i _ hi') (λb g c hb hk=>(ho.far i _ b g c hi' hb hk).1) hmr hm' (mrD_only d 300) (z:=14) hk0' hκ;refine zDx (zwE (C:=zbi.C) (A:=zbi.F)) wk_n (zNB wk_hb hr ht) ⟨S,_,h1⟩ ?_
 rintro a' w' ⟨S',κ1,hg1⟩
 have hg2:∃κ2,GoodS w S (lentK κ (κd i) (mrD d) 300) (λb=>(Ab.look (lentM (e0D d) (mrD d) m 300) b).isSome=true) zbi.fn.ntmps S' κ2 st2 a' w':=by
  rcases h12 with rfl|⟨rfl,h301⟩
  .exact⟨κ1,hg1⟩
  .exact⟨_,GoodS.ren hg1 (by omega) (by omega) (by omega) h301⟩
 obtain⟨κ2,hg2⟩:=hg2
 obtain⟨r1,r2⟩:=lent_back (B:=300) (e0':=e0D d') (mr':=mrD d') hg ho hi' hmr hm' hg2 hd' (λb hb=>by have:=zGt hb;omega) (mrD_only d' 1300) ks drop e (λb hb=>by
  refine⟨by rw[<-e]at hb;exact zDo ks drop st2 b hb,λhq=>?_,by have:=hN b hb;omega⟩;have:=hN b hb;rcases look_two hq with h|h
  .omega
  .have:=zGt h;omega)
 have e4:(λj=>if j=i then some ((300,e0D d')::mrD d')else mems ds j)=mems (upd ds i d'):=by funext j;simp only[mems,upd];split<;>rfl
 rw[e4]at r2;refine hQ _ _ _ ⟨S',_,r1,r2⟩ (λj hj=>?_);simp only[upd];by_cases hji:j=i
 .simp only[if_pos hji];subst hji;exact⟨g,c,by unfold homeK;simpa using hκ,hx⟩
 .simp only[if_neg hji];exact hp j hj
end
end
section
def zM(d:zaF):Mem:=[(1000,⟨14,177,[[I d.N,.row 900 10 0 ((mH d.marks).length),I d.period,I d.l.n,I d.l.b,I d.l.B,.map 901,AV.sl 1 (List.map nBool d.watch.J),B d.watch.p,I d.good.n,I d.good.b,I d.good.B,B d.some,.row 902 12 0 ((mF d.d).length)]],true⟩),(900,gJ (mH d.marks)),(901,gK (mN d.R)),(902,gA (mF d.d))]
structure Legs(s:zam) where
 rein:zbf->zaF->zaF
 note:zaQ->GSeed->zad->zaF->zaF
 fit:zad->Option Nat
 seed:Int->Option GSeed
 ok:zad->Prop
 D:Nat->zaF->Prop
 ranges:∀e,ok e->(0<=e.q/\e.q<100)/\0<=e.a.b/\e.a.b<100
 D0:∀l,D 0 (desk0 l)
 Dup:∀k d,D k d->D (k+1) d
 Dlen:∀k d,D k d->d.marks.length<=k
 Drein:∀k d e,ok e->D k d->D (k+1) (rein e.a d)
 Dnote:∀k d p sd e,ok e->D k d->D (k+1) (note p sd e d)
 Dapp:∀k d e,ok e->D k d->D (k+1) { d with marks:=d.marks++[⟨e,d.watch.p⟩] }
 fit_lt:∀e q,fit e=some q->q<s.u.length
 cRein:∀k d e,k<1000000->ok e->D k d->cw 142 [.loc 1000 14 0 0,.agg (zcc e.a)] (zM d)=some (zdx (rein e.a d))
 cNote:∀k d p sd e,k<1000000->ok e->D k d->p∈s.u->(∃q,fit e=some q/\s.u[q]?=some p)->seed e.h=some sd->cw 145 [.loc 1000 14 0 0,.agg (zap s),.agg (zaU p),.agg (zcL sd),.agg (zab e)] (zM d)=some (zdx (note p sd e d))
 cFits:∀x e,ok e->cw 143 [.fa 1 (rows x),.agg (zap s),.agg (zab e)] []=some (zi0 (match x e.a.b.toNat,fit e with
  |some p,some q=>((q:Int),some p)
  |_,_=>(0,none)))
 cSeed:∀n,cw 144 [.agg (zap s),I n] []=some (zlv ((seed n).getD ⟨0,[]⟩,(seed n).isSome))
def evG{s:zam}(g:Legs s)(st:Desks×Reop)(e:zad):Desks×Reop:=
 if e.r=1 then(match st.1 e.q.toNat with
  |some d=>(upd st.1 e.q.toNat (g.rein e.a d),st.2)
  |none=>st)
 else if e.r=2 then(st.1,mput ⟨e.h,e.x⟩ e.a st.2)
 else if e.r=0 then(match st.1 e.a.b.toNat,g.fit e with
  |some d,some q=>(match g.seed e.h,s.u[q]? with
    |some sd,some p=>(upd st.1 e.a.b.toNat (g.note p sd e d),st.2)
    |none,_=>(upd st.1 e.a.b.toNat { d with marks:=d.marks++[⟨e,d.watch.p⟩] },st.2)
    |_,_=>st)
  |_,_=>st)
 else st
abbrev tE(ev:aA)(i:Int):Tab:=[(2,gQ 2 9),(6,gQ 18 1),(9,AV.map 37),(38,sC ev),(39,I ((mA ev).length:Int)),(40,I i)]
abbrev stE(s:zam)(ev:aA)(x:aW)(R:Reop)(i:Int):St:=⟨tE ev i,[bS s,bA x,bR R]⟩
section
variable{w0:World}{S0:aB}{κ0:Kap}{K:aB}{a:Act}{w:World}
def zon{m:Mem}(h:m.all (λp=>decide (p.1<300))=true):∀b,(Ab.look m b).isSome=true->b<300:=λb hb=>by obtain⟨ent,he⟩:=zaN.1 hb;have:=zbV.1 h (b,ent) (zoe he);simpa using this
def wk_event{s:zam}{ev:aA}(g:Legs s){k:Nat}{ds:Desks}{R:Reop}{x:aW}{κd:Nat->Kap}(hk:k<ev.length)(hok:g.ok ev[k])(hev:ev.length<1000000)
  (h:Now w0 S0 κ0 K zbi.fn.ntmps (mems ds) κd (stE s ev x R k) a w) (hp:Points ds κd x) (hD:∀i d,ds i=some d->g.D k d) {Q:aO}
  (hQ:∀a' w' κd',Now w0 S0 κ0 K zbi.fn.ntmps (mems (evG g (ds,R) ev[k]).1) κd' (stE s ev x (evG g (ds,R) ev[k]).2 k) a' w'->Points (evG g (ds,R) ev[k]).1 κd' x->Q .normal a' w'):(Code.block 3 (.seq (.region 10 (wkO 10) (wkD 10)) (.seq (.region 11 (wkO 11) (wkD 11)) (.block 4 (.seq (.region 12 (wkO 12) (wkD 12)) (.cond (.tmp 46) (.seq (.region 13 (wkO 13) (wkD 13)) (.seq (.region 14 (wkO 14) (wkD 14)) (.cond (.tmp 55) (.region 15 (wkO 15) (wkD 15)) .skip))) (.seq (.region 16 (wkO 16) (wkD 16)) (.cond (.tmp 60) (.region 17 (wkO 17) (wkD 17)) (.seq (.region 18 (wkO 18) (wkD 18)) (.cond (.tmp 70) (.seq (.region 19 (wkO 19) (wkD 19)) (.seq (.seq (.region 20 (wkO 20) (wkD 20)) (.cond (.tmp 80) (.exit 3) .skip)) (.seq (.region 21 (wkO 21) (wkD 21)) (.seq (.region 22 (wkO 22) (wkD 22)) (.cond (.tmp 88) (.region 23 (wkO 23) (wkD 23)) (.region 24 (wkO 24) (wkD 24))))))) .skip)))))))))).wp zbi.P Q a w:=by
 refine wp_block (wp_seq ?_);have ht:=w10 s ev (rows x) (mL R) ((mA ev).length:Int) (k:Int);rw[cPQ,zcB,show((k:Int)).toNat=k from rfl,zaa hk,zae]at ht;refine wkStep ht h (λa1 w1 h1=>?_);obtain⟨⟨hm0,hm1⟩,hs0,hs1⟩:=g.ranges _ hok;generalize ev[k]=e at h1 hok hQ hm0 hm1 hs0 hs1;refine wp_seq (wkStep (w11 s ev _ _ _ _ e) h1 (λa2 w2 h2=>?_));refine wp_block (wp_seq (wkStep (w12 s ev _ _ _ _ e) h2 (λa3 w3 h3=>?_)));refine wp_cond (h3.bool (b:=e.r==1) rfl) ?_;by_cases k1:e.r=1
 ·
  rw[if_pos (by simp[k1])];have h4:=h3.trim [2,6,9,11,38,39,40] [] (st':=⟨[(2,gQ 2 9),(6,gQ 18 1),(9,AV.map 37),(11,gQ 11 9),(38,sC ev),(39,I ((mA ev).length:Int)),(40,I k)],[bS s,bE e,bA x,bR R]⟩) (by kernel_rfl);have ht13:=w13 s ev (rows x) (mL R) ((mA ev).length:Int) (k:Int) e;have hi:e.q.toNat<100:=by omega
  have hrow:=zt8 x (0+e.q.toNat) (by omega);rw[zaR]at hrow;rw[zar hm0,zar (by simpa using hm1),zaR]at ht13;have hpi:=hp _ hi
  cases hdi:ds e.q.toNat with
  |none =>
    rw[hdi]at hpi;rw[hpi]at hrow;rw[zDe hrow]at ht13;refine wp_seq (wkStep ht13 h4 (λa5 w5 h5=>?_));refine wp_seq (wkStep (w14n s ev _ _ _ _ e) h5 (λa6 w6 h6=>?_));refine wp_cond (h6.bool (b:=false) rfl) ?_;rw[iNs];refine wp_skip ?_;have h7:=h6.trim [2,6,9,38,39,40] [11] (st':=stE s ev x R k) (by kernel_rfl)
    have e1:evG g (ds,R) e=(ds,R):=by unfold evG;rw[if_pos k1];simp only[hdi]
    rw[e1]at hQ;exact hQ _ _ _ h7 hp
  |some d =>
    have hpi':=hpi;rw[hdi]at hpi;obtain⟨g1,c1,hκ,hx⟩:=hpi;rw[hx]at hrow;rw[zJs hrow]at ht13;refine wp_seq (wkStep ht13 h4 (λa5 w5 h5=>?_));refine wp_seq (wkStep (w14p s ev _ _ _ _ e _) h5 (λa6 w6 h6=>?_));refine wp_cond (h6.bool (b:=true) rfl) ?_;rw[if_pos rfl];have h7:=h6.trim [2,6,9,11,12,38,39,40] [] (st':=⟨[(2,gQ 2 9),(6,gQ 18 1),(9,AV.map 37),(11,gQ 11 9),(12,AV.v (.pointer (some ⟨g1,0,none⟩))),(38,sC ev),(39,I ((mA ev).length:Int)),(40,I k)],[bS s,bE e,bA x,bR R]⟩) (by kernel_rfl);have ht15:=w15 s ev (rows x) (mL R) ((mA ev).length:Int) (k:Int) e ⟨g1,0,none⟩ d;rw[zar rfl,zar rfl]at ht15;have hc:=g.cRein k d e (by omega) hok (hD _ d hdi);unfold zM at hc;rw[hc,zjv]at ht15;refine wk_desk (k0:=12) wk_r15 h7 hp hi hdi (by rw[hx];rfl) (zon (by kernel_rfl)) ht15 (.inl rfl) (d':=g.rein e.a d) (λb ent hb=>?_) [2,6,9,38,39,40] [11,1300,301,302,303] (stN:=stE s ev x R k) (by kernel_rfl) (zon (by kernel_rfl)) (λa8 w8 κd8 h8 hp8=>?_)
    . simp only[deskB,mrD,e0D,Ab.look]at hb ⊢
      grind
    . have e1:evG g (ds,R) e=(upd ds e.q.toNat (g.rein e.a d),R):=by unfold evG;rw[if_pos k1];simp only[hdi]
      rw[e1]at hQ;exact hQ _ _ _ h8 hp8
 rw[if_neg (by simpa using k1)];have h4:=h3.trim [2,6,9,11,38,39,40,45] [] (st':=⟨[(2,gQ 2 9),(6,gQ 18 1),(9,AV.map 37),(11,gQ 11 9),(38,sC ev),(39,I ((mA ev).length:Int)),(40,I k),(45,I e.r)],[bS s,bE e,bA x,bR R]⟩) (by kernel_rfl);refine wp_seq (wkStep (w16 s ev _ _ _ _ e) h4 (λa5 w5 h5=>?_));refine wp_cond (h5.bool (b:=e.r==2) rfl) ?_;by_cases k2:e.r=2
 ·
  rw[if_pos (by simp[k2])];have h6:=h5.trim [2,6,9,11,38,39,40] [] (st':=⟨[(2,gQ 2 9),(6,gQ 18 1),(9,AV.map 37),(11,gQ 11 9),(38,sC ev),(39,I ((mA ev).length:Int)),(40,I k)],[bS s,bE e,bA x,bR R]⟩) (by kernel_rfl);have ht17:=w17 s ev (rows x) R ((mA ev).length:Int) (k:Int) e;rw[ztg]at ht17;refine wkStep ht17 h6 (λa7 w7 h7=>?_)
  have e1:evG g (ds,R) e=(ds,mput ⟨e.h,e.x⟩ e.a R):=by
   unfold evG
   grind
  rw[e1]at hQ;exact hQ _ _ _ (h7.trim [2,6,9,38,39,40] [11] (by kernel_rfl)) hp
 rw[if_neg (by simpa using k2)];have h6:=h5.trim [2,6,9,11,38,39,40,45] [] (st':=⟨[(2,gQ 2 9),(6,gQ 18 1),(9,AV.map 37),(11,gQ 11 9),(38,sC ev),(39,I ((mA ev).length:Int)),(40,I k),(45,I e.r)],[bS s,bE e,bA x,bR R]⟩) (by kernel_rfl);refine wp_seq (wkStep (w18 s ev _ _ _ _ e) h6 (λa7 w7 h7=>?_));refine wp_cond (h7.bool (b:=e.r==0) rfl) ?_;by_cases k3:¬e.r=0
 ·
  rw[if_neg (by simpa using k3)];refine wp_skip ?_
  have e1:evG g (ds,R) e=(ds,R):=by
   unfold evG
   simp_all
  rw[e1]at hQ;exact hQ _ _ _ (h7.trim [2,6,9,38,39,40] [11] (by kernel_rfl)) hp
 replace k3:=Decidable.not_not.1 k3;rw[if_pos (by simp[k3])];have h8:=h7.trim [2,6,9,11,38,39,40] [] (st':=⟨[(2,gQ 2 9),(6,gQ 18 1),(9,AV.map 37),(11,gQ 11 9),(38,sC ev),(39,I ((mA ev).length:Int)),(40,I k)],[bS s,bE e,bA x,bR R]⟩) (by kernel_rfl);have ht19:=w19 s ev (rows x) (mL R) ((mA ev).length:Int) (k:Int) e;rw[zar (by unfold rows;simp),g.cFits x e hok,zwC]at ht19;have hi:e.a.b.toNat<100:=by omega
 have hpi:=hp _ hi
 have noDesk:(x e.a.b.toNat=none\/g.fit e=none)->(Code.seq (.region 19 (wkO 19) (wkD 19)) (.seq (.seq (.region 20 (wkO 20) (wkD 20)) (.cond (.tmp 80) (.exit 3) .skip)) (.seq (.region 21 (wkO 21) (wkD 21)) (.seq (.region 22 (wkO 22) (wkD 22)) (.cond (.tmp 88) (.region 23 (wkO 23) (wkD 23)) (.region 24 (wkO 24) (wkD 24))))))).wp zbi.P (Exit.inBlock 4 (Exit.inBlock 3 Q)) a7 w7:=by
  intro hno
  have e0:(match x e.a.b.toNat,g.fit e with
   |some p,some q=>((q:Int),some p)
   |_,_=>((0:Int),none))=((0:Int),(none:Option Addr)):=by
   rcases hno with q|q
   .rw[q]
   .simp_all
  rw[e0]at ht19;refine wp_seq (wkStep ht19 h8 (λa9 w9 h9=>?_));refine wp_seq (wp_seq (wkStep (w20n s ev _ _ _ _ e 0) h9 (λa10 w10 h10=>?_)));refine wp_cond (h10.bool (b:=true) rfl) ?_;rw[if_pos rfl];refine wp_exit ?_
  have e1:evG g (ds,R) e=(ds,R):=by
   unfold evG;rw[if_neg k1,if_neg k2,if_pos k3];rcases hno with q|q
   .grind
   .simp_all
  rw[e1]at hQ;exact hQ _ _ _ (h10.trim [2,6,9,38,39,40] [11] (by kernel_rfl)) hp
 cases hdi:ds e.a.b.toNat with
 |none=>simp_all
 |some d =>
   cases hf:g.fit e with
   |none=>exact noDesk (.inr hf)
   |some q =>
     rw[hdi]at hpi;obtain⟨g1,c1,hκ,hx⟩:=hpi;rw[hx,hf]at ht19;refine wp_seq (wkStep ht19 h8 (λa9 w9 h9=>?_));refine wp_seq (wp_seq (wkStep (w20p s ev _ _ _ _ e q ⟨g1,0,none⟩) h9 (λa10 w10 h10=>?_)));refine wp_cond (h10.bool (b:=false) rfl) ?_;rw[iNs];refine wp_skip ?_;have h11:=h10.trim [2,6,9,11,13,14,38,39,40] [] (st':=⟨[(2,gQ 2 9),(6,gQ 18 1),(9,AV.map 37),(11,gQ 11 9),(13,I q),(14,AV.v (.pointer (some ⟨g1,0,none⟩))),(38,sC ev),(39,I ((mA ev).length:Int)),(40,I k)],[bS s,bE e,bA x,bR R]⟩) (by kernel_rfl);have ht21:=w21 s ev (rows x) (mL R) ((mA ev).length:Int) (k:Int) e q ⟨g1,0,none⟩;rw[g.cSeed,zAt]at ht21;refine wp_seq (wkStep ht21 h11 (λa12 w12 h12=>?_));refine wp_seq (wkStep (w22 s ev _ _ _ _ e q ⟨g1,0,none⟩ _ _) h12 (λa13 w13 h13=>?_));refine wp_cond (h13.bool (b:=(g.seed e.h).isSome) rfl) ?_;have h14:=h13.trim [2,6,9,11,13,14,15,38,39,40] [] (st':=⟨[(2,gQ 2 9),(6,gQ 18 1),(9,AV.map 37),(11,gQ 11 9),(13,I q),(14,AV.v (.pointer (some ⟨g1,0,none⟩))),(15,gQ 15 2),(38,sC ev),(39,I ((mA ev).length:Int)),(40,I k)],[bS s,bE e,bD ((g.seed e.h).getD ⟨0,[]⟩),bA x,bR R]⟩) (by kernel_rfl);have hql:=g.fit_lt e q hf
     cases hsd:g.seed e.h with
     |some sd =>
       rw[hsd]at h14;rw[if_pos (show(some sd).isSome=true from rfl)];have ht23:=w23 s ev (rows x) (mL R) ((mA ev).length:Int) (k:Int) e q ⟨g1,0,none⟩ sd d;rw[cPQ,zeM,show((q:Int)).toNat=q from rfl,zaa hql,zae,zar rfl,zar rfl]at ht23;have hc:=g.cNote k d s.u[q] sd e (by omega) hok (hD _ d hdi) (zau hql) ⟨q,hf,zaa hql⟩ hsd;unfold zM at hc;rw[hc,zjv]at ht23;refine wk_desk (k0:=14) wk_r23 h14 hp hi hdi (by rw[hx];rfl) (zon (by kernel_rfl)) ht23 (.inl rfl) (d':=g.note s.u[q] sd e d) (λb ent hb=>?_) [2,6,9,38,39,40] [11,15,1300,301,302,303] (stN:=stE s ev x R k) (by kernel_rfl) (zon (by kernel_rfl)) (λa8 w8 κd8 h8 hp8=>?_)
       . simp only[deskB,mrD,e0D,Ab.look]at hb ⊢
         grind
       . have e1:evG g (ds,R) e=(upd ds e.a.b.toNat (g.note s.u[q] sd e d),R):=by unfold evG;rw[if_neg k1,if_neg k2,if_pos k3];simp only[hdi,hf,hsd,zaa hql]
         rw[e1]at hQ;exact hQ _ _ _ h8 hp8
     |none =>
       rw[hsd]at h14;rw[iNs];have ht24:=w24 s ev (rows x) (mL R) ((mA ev).length:Int) (k:Int) e q ⟨g1,0,none⟩ ⟨0,[]⟩ d;have hdl:=g.Dlen _ _ (hD _ d hdi);rw[zar rfl,zar (by grind)]at ht24;refine wk_desk (k0:=14) wk_r24 h14 hp hi hdi (by rw[hx];rfl) (zon (by kernel_rfl)) ht24 (.inr ⟨rfl,by kernel_rfl⟩) (d':={ d with marks:=d.marks++[⟨e,d.watch.p⟩] }) (λb ent hb=>?_) [2,6,9,38,39,40] [11,15,1300,301,302,303] (stN:=stE s ev x R k) (by kernel_rfl) (zon (by kernel_rfl)) (λa8 w8 κd8 h8 hp8=>?_)
       . have e2:mH (d.marks++[⟨e,d.watch.p⟩])=mH d.marks++[zaM ⟨e,d.watch.p⟩]:=by simp
         simp only[deskB,mrD,e0D,Ab.look,e2]at hb ⊢
         repeat' split at hb
         all_goals first|(subst_vars;rw[<-hb];rfl)|cases hb
       . have e1:evG g (ds,R) e=(upd ds e.a.b.toNat { d with marks:=d.marks++[⟨e,d.watch.p⟩] },R):=by unfold evG;rw[if_neg k1,if_neg k2,if_pos k3];simp only[hdi,hf,hsd]
         rw[e1]at hQ;exact hQ _ _ _ h8 hp8
end
end
structure DeskOk(r:zbK)(k:Nat)(d:zaF):Prop where
 marks:d.marks.length<=k
 susp:d.d.length<=k
 period:0<=d.period/\d.period<=d.marks.length
 watch:zoI r d.watch
 some:d.watch.p=true->0<d.d.length
def zjH(p:Int)(f:Bool)(g:zbf)(l:List zcq)(i:Nat):List zcq:=l.mapIdx λj m=>if j<i then voidIf p f g j m else m
def zNg(p:Int)(f:Bool)(g:zbf)(l:List zcq)(i:Nat):(zjH p f g l i).length=l.length:=by simp[zjH]
def zyM{p:Int}{f:Bool}{g:zbf}{l:List zcq}{i:Nat}(hi:i<l.length):(zjH p f g l i)[i]?=some l[i]:=by
 unfold zjH
 simp_all
def zDp{p:Int}{f:Bool}{g:zbf}{l:List zcq}{i:Nat}(hi:i<l.length):zjH p f g l (i+1)=(zjH p f g l i).set i (voidIf p f g i l[i]):=by
 unfold zjH;apply zc6
 grind
def zMn{p:Int}{f:Bool}{g:zbf}{l:List zcq}{i:Nat}(hi:i<l.length)(h:voidIf p f g i l[i]=l[i]):zjH p f g l (i+1)=zjH p f g l i:=by
 rw[zDp hi,h];apply zc6;intro j;rw[zgh];by_cases hj:i=j
 .subst hj;rw[zyM hi,if_pos rfl,zNg,if_pos hi]
 .rw[if_neg hj]
def zNf(p:Int)(f:Bool)(g:zbf)(l:List zcq):zjH p f g l l.length=l.mapIdx (voidIf p f g):=by
 unfold zjH;apply zc6
 grind
def zJb{p:Int}(f:Bool)(g:zbf)(l:List zcq)(hp:0<=p):zjH p f g l p.toNat=l:=by
 unfold zjH;apply zc6;intro j;rw[zeH]
 cases h:l[j]? with
 |none=>rfl
 |some m =>
   simp only[zbk,voidIf]
   grind
def susp_loop{d:zaF}(hl:d.marks.length<=1000000)(x:zcb)(us:List zcb):∀(n i:Nat),i+n=d.marks.length->d.period<=i->zfr d x (mH (zjH d.period x.xh x.xd d.marks i)) (mF us) i=some (zdx { d with marks:=d.marks.mapIdx (voidIf d.period x.xh x.xd),d:=us }):=by
 intro n
 induction n with
 |zero =>
   intro i hi hpi;refine zp8 ?_;rw[zaH (by simp;omega),show i=d.marks.length by omega,zNf];have e:(mH d.marks).length=(mH (d.marks.mapIdx (voidIf d.period x.xh x.xd))).length:=by simp
   rw[e];rfl
 |succ n ih =>
   intro i hi hpi;have hlt:i<d.marks.length:=by omega
   have void:voidIf d.period x.xh x.xd i d.marks[i]={ d.marks[i]with xf:=true }->zhR d x (mH (zjH d.period x.xh x.xd d.marks i)) (mF us) i=some (zdx { d with marks:=d.marks.mapIdx (voidIf d.period x.xh x.xd),d:=us }):=by intro hv;refine zuT ?_;rw[cPQ,zar (by simp;omega),zaR,zaf,zpD,zyM hlt,zae,w6Q,show((i:Int)+1)=((i+1:Nat):Int)by omega];have:=ih (i+1) (by omega) (by omega);rw[zDp hlt,hv]at this;(try simp only[<-zf3]at this);exact this
   refine zp8 ?_;rw[zaB (by simp;omega)]
   cases hf:x.xh with
   |true=>rw[zaO,<-hf];exact void (by unfold voidIf;simp_all)
   |false =>
     rw[zay,cPQ,zar (by simp;omega),zaR,zaf,zpD,<-hf,zyM hlt,zae,zzi,za7,zFS]
     cases hc:lessS x.xd d.marks[i].G.a with
     |true=>rw[zaO];exact void (by unfold voidIf;simp_all)
     |false=>rw[zay,w6Q,show((i:Int)+1)=((i+1:Nat):Int)by omega];have:=ih (i+1) (by omega) (by omega);rw[zMn hlt (by unfold voidIf;simp_all)]at this;exact this
def c_suspend(d:zaF)(id:Int)(a:zbf)(hl:d.marks.length<=1000000)(hs:d.d.length<=1000000)(hp:0<=d.period/\d.period<=d.marks.length):cw 192 [.loc 1000 14 0 0,I id,.agg (zcc a)] (zte d)=some (zdx (suspS id a d)):=by
 refine zyB ?_
 have go:∀x:zcb,x.xh=!d.some->x.xd=(if d.some=true then d.good else d.l)->x.q=id->x.At=a->x.xg=⟨0,0,0⟩->x.xk=false->zfr d x (mH d.marks) (mF d.d++[zaA x]) d.period=some (zdx (suspS id a d)):=by
  intro x h1 h2 h3 h4 h5 h6;have:=susp_loop hl x (d.d++[x]) (d.marks.length-d.period.toNat) d.period.toNat (by omega) (by omega)
  rw[zJb _ _ _ hp.1,show((d.period.toNat:Nat):Int)=d.period by omega]at this;(try simp only[<-zdL]at this);rw[this];unfold suspS;obtain⟨m,g,t,u,f,li⟩:=x;simp only at h1 h2 h3 h4 h5 h6;subst h1 h2 h3 h4 h5 h6;rfl
 cases hso:d.some with
 |true =>
   rw[zaG,zay];refine zth ?_;rw[zar rfl,zar (by grind)]
   simp_all
 |false =>
   rw[zbj,zaO];refine zuS ?_;rw[zar rfl,zar (by grind)]
   simp_all
def modify_at{α:Type}{l:List α}{i:Nat}(f:α->α)(h:i<l.length):l.modify i f=l.set i (f l[i]):=by
 apply zc6
 grind
def zMV(d:zaF)(a:zbf)(hs:d.d.length<=1000000)(h0:d.watch.p=true->0<d.d.length):cw 142 [.loc 1000 14 0 0,.agg (zcc a)] (zM d)=some (zdx (reinS a d)):=by
 refine zwJ ?_;unfold reinS;obtain⟨lv,mk,pe,st,no,⟨la,su⟩,go,so,us⟩:=d;simp only at hs h0 ⊢
 cases su with
 |false=>rfl
 |true =>
   have h1:=h0 rfl;have hlt:us.length-1<us.length:=by omega
   rw[zaG,zay,zac,w6Q,cPQ,cPQ,zaR,zfX h1,zqQ,zaa hlt,zae,zf3,zqQ,zgh,if_pos rfl,if_pos hlt,zae,zf3,List.set_set,if_pos rfl,modify_at _ hlt];have e:us.length=(mF (us.set (us.length-1) ⟨us[us.length-1].q,⟨us[us.length-1].xd.n,us[us.length-1].xd.b,us[us.length-1].xd.B⟩,⟨us[us.length-1].At.n,us[us.length-1].At.b,us[us.length-1].At.B⟩,⟨a.n,a.b,a.B⟩,us[us.length-1].xh,true⟩)).length:=by simp
   conv=>lhs;arg 1;arg 2;arg 1;arg 2;arg 3;rw[e]
   conv=>rhs;rw[show mk.length=(mH mk).length by simp]
   rfl
def c_note(hok:CallOK zP (single 245 zOrc))(s:zam)(hm:OkMon s.H)(p:zaQ)(sd:GSeed)(e:zad)(d:zaF){k:Nat}(hd:DeskOk s.H k d)(hk:k<1000000)
  (hp:p.g.length<=24) (hsd:sd.T.length=p.g.length):cw 145 [.loc 1000 14 0 0,.agg (zap s),.agg (zaU p),.agg (zcL sd),.agg (zab e)] (zM d)=some (zdx (noteS s p sd e d)):=by
 have hml:=hd.marks;have hsl:=hd.susp;refine zB0 ?_;rw[zqL];unfold noteS
 cases hf:(mfind ⟨e.h,e.x⟩ d.R).isSome with
 |true=>rw[zaO,if_pos rfl];rfl
 |false =>
 rw[zay,iNs,zxo];simp only;generalize mput ⟨e.h,e.x⟩ e.s d.R=no
 have key:∀(n i:Nat) (x y:aC),i+n=p.g.length->x.length<=i->y.length<=i->ziw d s p sd e (mN no) (List.map zah x) (List.map zah y) i=some (zdx (match gather no e.h sd.T (p.g.drop i) i x y with
    |none=>{ d with R:=no }
    |some (x,y) =>
      if d.watch.p then{ d with R:=no }
      else
       if(stepW s.H d.watch (goodS s.H x y)).p then suspS e.a.b e.a { { d with R:=no }with watch:=stepW s.H d.watch (goodS s.H x y) }
       else if goodS s.H x y then{ { { d with R:=no }with watch:=stepW s.H d.watch (goodS s.H x y) }with good:=e.a,some:=true }
       else{ { d with R:=no }with watch:=stepW s.H d.watch (goodS s.H x y) })):=by
  intro n
  induction n with
  |zero =>
    intro i x y hi hx hy;refine zsl ?_;rw[zac,zaH (by omega),cPQ,cPQ,take_len,take_len,c_Good _ hm x y (by omega) (by omega),zas,c_Step hok _ hm _ hd.watch,zwD,zcr (by omega)];unfold gather;simp only;generalize goodS s.H x y=gd;obtain⟨lv,mk,pe,st,no0,⟨la,su⟩,go,so,us⟩:=d;simp only at *
    cases su with
    |true=>rfl
    |false =>
      rw[iNs,iNs,show((0:Int) !=0)=false from rfl,zay];generalize hw:stepW s.H ⟨la,false⟩ gd=w2;obtain⟨l2,s2⟩:=w2;simp only
      cases s2 with
      |true=>rw[zaO,if_pos rfl,zar trivial,zar trivial];have hc:=c_suspend ⟨lv,mk,pe,st,no,⟨l2,true⟩,go,so,us⟩ e.a.b e.a (by grind) (by grind) hd.period;have hc':cw 192 [.loc 1000 14 0 0,I e.a.b,.agg (zcc e.a)] [(1000,⟨14,177,[[I lv,.row 900 10 0 ((mH mk).length),I pe,I st.n,I st.b,I st.B,.map 901,.sl 1 (List.map nBool l2),B true,I go.n,I go.b,I go.B,B so,.row 902 12 0 ((mF us).length)]],true⟩),(900,gJ (mH mk)),(901,gK (mN no)),(902,gA (mF us))]=_:=hc;rw[hc',zjv];rfl
      |false =>
        rw[zay,iNs]
        cases gd with
        |true=>rfl
        |false=>rfl
  |succ n ih =>
    intro i x y hi hx hy;have hlt:i<p.g.length:=by omega
    refine zsl ?_;rw[zac,zaB (by omega),cPQ,zaf,zen,zaa hlt,zae,zbe hlt,w6Q,show((i:Int)+1)=((i+1:Nat):Int)by omega];unfold gather;by_cases hk1:p.g[i].r=1
    . rw[show(p.g[i].r !=1)=false by simp[hk1],zay,if_pos hk1,zqL];have hi2:i<sd.T.length:=by omega
      cases hv:mfind ⟨e.h,i⟩ no with
      |none=>simp only[zW,zeJ];rfl
      |some v =>
        simp only[zO,zdd,zbO];rw[cPQ,zb6,zaa hi2,zae,zar trivial,zar (by grind),zar trivial,zar trivial,zar (by grind),zar trivial]
        grind
    . rw[show(p.g[i].r !=1)=true by simp[hk1],zaO,if_neg hk1]
      grind
 have:=key p.g.length 0 [] [] (by omega) (by simp) (by simp)
 grind
section
def walkW{s:zam}(g:Legs s)(ev:aA):Desks×Reop:=ev.foldl (evG g) (seats s.k,[])
def upd_D{s:zam}(g:Legs s){ds:Desks}{k i:Nat}{d:zaF}(h:∀i d,ds i=some d->g.D k d)(hd:g.D (k+1) d):∀j d',upd ds i d j=some d'->g.D (k+1) d':=λj d' hj=>by
 unfold upd at hj;split at hj
 .simp_all
 .exact g.Dup k d' (h j d' hj)
def stepW_D{s:zam}(g:Legs s){ds:Desks}{R:Reop}{k:Nat}{e:zad}(hok:g.ok e)(h:∀i d,ds i=some d->g.D k d):∀i d,(evG g (ds,R) e).1 i=some d->g.D (k+1) d:=by
 intro i d hi;unfold evG at hi;split at hi
 . split at hi
   .rename_i d0 hd0;exact upd_D g h (g.Drein k d0 e hok (h _ _ hd0)) i d hi
   .exact g.Dup k d (h i d hi)
 . split at hi
   .exact g.Dup k d (h i d hi)
   . split at hi
     . split at hi
       . rename_i d0 q hd0 _;split at hi
         .exact upd_D g h (g.Dnote k d0 _ _ e hok (h _ _ hd0)) i d hi
         .exact upd_D g h (g.Dapp k d0 e hok (h _ _ hd0)) i d hi
         .exact g.Dup k d (h i d hi)
       .exact g.Dup k d (h i d hi)
     .exact g.Dup k d (h i d hi)
def seats_D{s:zam}(g:Legs s)(ms:aN):∀i d,seats ms i=some d->g.D 0 d:=by
 have key:∀(ms:aN) (ds:Desks),(∀i d,ds i=some d->g.D 0 d)->∀i d,(ms.foldl (λds m=>upd ds m.ID.toNat (desk0 m.I)) ds) i=some d->g.D 0 d:=by
  intro ms
  induction ms with
  |nil=>intro ds h;exact h
  |cons m ms ih =>
    intro ds h;refine ih _ (λi d hi=>?_);replace hi:upd ds m.ID.toNat (desk0 m.I) i=some d:=hi;unfold upd at hi;split at hi
    .injection hi with hi;rw[<-hi];exact g.D0 _
    .exact h i d hi
 exact key ms _ (λi d h=>by cases h)
section
variable{w0:World}{S0:aB}{κ0:Kap}{K:aB}{a:Act}{w:World}
def wk_loop{s:zam}{ev:aA}(g:Legs s){x:aW}{κd0:Nat->Kap}(hok:∀e∈ev,g.ok e)(hev:ev.length<1000000)
  (h:Now w0 S0 κ0 K zbi.fn.ntmps (mems (seats s.k)) κd0 (stE s ev x [] 0) a w) (hp:Points (seats s.k) κd0 x) {Q:aO}
  (hQ:∀a' w' κd,Now w0 S0 κ0 K zbi.fn.ntmps (mems (walkW g ev).1) κd (stE s ev x (walkW g ev).2 ev.length) a' w'->Points (walkW g ev).1 κd x->Q .normal a' w'):(Code.block 2 (.loop (.seq (.region 9 (wkO 9) (wkD 9)) (.seq (.cond (.tmp 41) .skip (.exit 2)) (.seq (.block 3 (.seq (.region 10 (wkO 10) (wkD 10)) (.seq (.region 11 (wkO 11) (wkD 11)) (.block 4 (.seq (.region 12 (wkO 12) (wkD 12)) (.cond (.tmp 46) (.seq (.region 13 (wkO 13) (wkD 13)) (.seq (.region 14 (wkO 14) (wkD 14)) (.cond (.tmp 55) (.region 15 (wkO 15) (wkD 15)) .skip))) (.seq (.region 16 (wkO 16) (wkD 16)) (.cond (.tmp 60) (.region 17 (wkO 17) (wkD 17)) (.seq (.region 18 (wkO 18) (wkD 18)) (.cond (.tmp 70) (.seq (.region 19 (wkO 19) (wkD 19)) (.seq (.seq (.region 20 (wkO 20) (wkD 20)) (.cond (.tmp 80) (.exit 3) .skip)) (.seq (.region 21 (wkO 21) (wkD 21)) (.seq (.region 22 (wkO 22) (wkD 22)) (.cond (.tmp 88) (.region 23 (wkO 23) (wkD 23)) (.region 24 (wkO 24) (wkD 24))))))) .skip)))))))))) (.region 25 (wkO 25) (wkD 25))))))).wp zbi.P Q a w:=by
 let pre:Nat->Desks×Reop:=λk=>(ev.take k).foldl (evG g) (seats s.k,[])
 refine wp_block (wp_loop (λa w=>∃k κd,k<=ev.length/\Now w0 S0 κ0 K zbi.fn.ntmps (mems (pre k).1) κd (stE s ev x (pre k).2 k) a w/\Points (pre k).1 κd x/\∀i d,(pre k).1 i=some d->g.D k d)
  (λa _=>ev.length-cnt a 40) ⟨0,κd0,zc4 _,h,hp,seats_D g _⟩ ?_)
 rintro a w ⟨k,κd,hk,hn,hp,hD⟩
 have hc0:cnt a 40=k:=by rw[zDT hn (n:=(k:Int)) rfl];simp
 refine wp_seq (wkStep (w9 s ev _ _ _ _) hn (λa1 w1 h1=>?_));refine wp_seq (wp_cond (h1.bool (b:=decide ((k:Int)<(mA ev).length)) rfl) ?_);by_cases hlt:k<ev.length
 . rw[decide_eq_true (by simp;omega),if_pos rfl];refine wp_skip ?_;have h2:=h1.trim [2,6,9,38,39,40] [] (st':=stE s ev x (pre k).2 k) (by kernel_rfl);refine wp_seq ?_
   have e:pre (k+1)=evG g (pre k) ev[k]:=by show(ev.take (k+1)).foldl (evG g) _=_;rw[zbP hlt,zh9];rfl
   refine wk_event g hlt (hok _ (zau hlt)) hev h2 hp hD (λa3 w3 κd3 h3 hp3=>?_);refine wkStep (w25 s ev _ _ _ _) h3 (λa6 w6 h6=>?_);rw[w6Q]at h6;refine⟨⟨k+1,κd3,hlt,by grind,by rw[e];exact hp3,by rw[e];exact stepW_D g (hok _ (zau hlt)) hD⟩,?_⟩;have:cnt a6 40=k+1:=by rw[zDT h6 (n:=(k:Int)+1) rfl];omega
   omega
 . rw[decide_eq_false (by simp;omega),iNs];refine wp_exit ?_;have hkl:k=ev.length:=by omega
   subst hkl
   have e:pre ev.length=walkW g ev:=by show(ev.take ev.length).foldl (evG g) _=_;rw[zcR];rfl
   rw[e]at h1 hp;exact hQ _ _ _ (h1.trim [2,6,9,38,39,40] [] (by kernel_rfl)) hp
def desk_snap(d:zaF):snap (Ab.look (deskM d)) 5 (.loc 300 14 0 0)=some (.fp (zgL d)):=by
 have e0:Ab.look (deskM d) 300=some (e0D d):=rfl;have e1:Ab.look (deskM d) 301=some (gJ (mH d.marks)):=rfl;have e2:Ab.look (deskM d) 302=some (gK (mN d.R)):=rfl;have e3:Ab.look (deskM d) 303=some (gA (mF d.d)):=rfl
 have r1:snap (Ab.look (deskM d)) 4 (.row 301 10 0 (mH d.marks).length)=some (.sl 10 (mH d.marks)):=by simp only[snap,e1];simp[zaz]
 have r2:snap (Ab.look (deskM d)) 4 (.map 302)=some (.mp (mN d.R)):=by simp only[snap,e2];simp
 have r3:snap (Ab.look (deskM d)) 4 (.row 303 12 0 (mF d.d).length)=some (.sl 12 (mF d.d)):=by simp only[snap,e3];simp[zaz]
 rw[show snap (Ab.look (deskM d)) 5 (.loc 300 14 0 0)=(match mapO (snap (Ab.look (deskM d)) 4) [I d.N,.row 301 10 0 ((mH d.marks).length),I d.period,I d.l.n,I d.l.b,I d.l.B,.map 302,AV.sl 1 (List.map nBool d.watch.J),B d.watch.p,I d.good.n,I d.good.b,I d.good.B,B d.some,.row 303 12 0 ((mF d.d).length)]with
  |some l=>some (.fp l)
  |none=>none)from rfl]
 simp only[mapO,r1,r2,r3];rfl
def zM8:enters zbi.P 95=true:=by kernel_rfl
def zNc{S S':aB}{κd:Kap}{d:zaF}{g c:Nat}{w:World}(hF:FarObj S w κd (Ab.look (deskM d)))(hS:∀g,S g->S' g)(hb:∀b g c,(Ab.look (deskM d) b).isSome=true->κd b=some (g,c)->S' g)
  (hκ:κd 300=some (g,c)):CRel S' w (.fp (zgL d)) (.pointer (some ⟨g,0,none⟩)):=by
 have hv:VRel S κd (λb=>(Ab.look (deskM d) b).isSome=true) w (.loc 300 14 0 0) (.pointer (some ⟨g,0,none⟩)):=by have:=VRel.loc (S:=S) (κ:=κd) (D:=λb=>(Ab.look (deskM d) b).isSome=true) (w:=w) 300 14 0 0 g c rfl hκ;simpa using this
 exact zmK hF.ents hS 5 hv (desk_snap d) (λb hbm g c hk=>hb b g c (ids_D hF.ents 5 _ _ hv b hbm) hk)
def walk_calls{s:zam}{ev:aA}(g:Legs s)(hm:∀m∈s.k,0<=m.ID/\m.ID<100)(hml:s.k.length<1000000)(hok:∀e∈ev,g.ok e)(hev:ev.length<1000000)
  (w:World) (S:aB) (κ:Kap) (vals:aM) (hvl:vals.size=2) (hS:∀g,S g->g<w.heap.size)
  (hv:∀(k:Nat) (a:AV) (x:Value),[sS s,sC ev][k]?=some a->vals[k]?=some x->VRel S κ (Dm []) w a x):Calls zbi.P 95 vals w (Ab.Left S κ [] [] (.tup [.fa 1 ((deskL (walkW g ev).1).map nDp),.mp (mL (walkW g ev).2)]) w):=by
 have hf:zbi.P.funcs[95]?=some zbi.fn:=by kernel_rfl
 refine calls_of_wp hf wk_hb ?_;have h0:=GoodS.start (args:=[sS s,sC ev]) (κ:=κ) (ms:=[]) (N:=zbi.fn.ntmps) (by rw[hvl];rfl) (show 2<=zbi.fn.ntmps by decide) hS hv (λb ent hb=>by simp[Ab.look]at hb) (λb b' g c c' hb=>by simp[Dm,Ab.look]at hb);have n0:Now w S κ (Dm []) zbi.fn.ntmps (λ_=>none) (λ_=>κ) ⟨argTab 0 [sS s,sC ev],[]⟩ _ w:=⟨S,κ,h0,Objs.none⟩
 generalize ({ tmps:=vals++Array.replicate (zbi.fn.ntmps-vals.size) undef,defers:=[] }:Act)=a0 at n0;rw[wk_shape];refine wp_seq (wkStep (Go.Proofs.YtlecnobdfhlmnaaGreat.w0 s ev) n0 (λa1 w1 h1=>?_));refine wp_seq (wkStep (Go.Proofs.YtlecnobdfhlmnaaGreat.w1 s ev) h1 (λa2 w2 h2=>?_));refine wp_seq (wp_seq (wkStep (Go.Proofs.YtlecnobdfhlmnaaGreat.w2 s ev (λ_=>none)) h2 (λa3 w3 h3=>?_)));refine wk_markers hm hml h3 (λa4 w4 κd4 x h4 hp4=>?_);have h5:=wk_toRow h4;refine wp_seq (wkStep (Go.Proofs.YtlecnobdfhlmnaaGreat.w7 s ev (rows x)) h5 (λa6 w6 h6=>?_));refine wp_seq (wp_seq (wkStep (Go.Proofs.YtlecnobdfhlmnaaGreat.w8 s ev (rows x) []) h6 (λa7 w7 h7=>?_)));have h8:=h7.trim [2,6,9,38,39,40] [] (st':=stE s ev x [] 0) (by kernel_rfl);refine wk_loop g hok hev h8 hp4 (λa9 w9 κd9 h9 hp9=>?_);have h10:=h9.trim [6,9] [2] (st':=⟨[(6,gQ 18 1),(9,AV.map 37)],[bA x,bR (walkW g ev).2]⟩) (by kernel_rfl);refine wp_seq (wkStep (Go.Proofs.YtlecnobdfhlmnaaGreat.w26 (rows x) _) h10 (λa11 w11 h11=>?_));refine wp_ret ?_;obtain⟨S2,κ2,hg,ho⟩:=h11;refine⟨hg.defers,?_⟩;obtain⟨v,hrun,hres⟩:=zvo (P:=zbi.P) (st:=⟨[(4,gQ 18 1),(5,AV.map 37)],[bA x,bR (walkW g ev).2]⟩) hg.slots hg.ents (fn:=zbi.fn) (l:=[.loc 18 1 0 0,.map 37]) (by kernel_rfl)
 have hv2:VRel S2 κ2 (λb=>(Ab.look [bA x,bR (walkW g ev).2] b).isSome=true) w11 (.tup [.loc 18 1 0 0,.map 37]) v:=by
  rcases hres with⟨a,ha,_⟩|⟨_,h⟩
  .cases ha
  .exact h
 refine⟨v,hrun,v,λq=>S2 q\/(∃b c,(Ab.look [bA x,bR (walkW g ev).2] b).isSome=true/\κ2 b=some (q,c))\/∃i d b c,(walkW g ev).1 i=some d/\(Ab.look (deskM d) b).isSome=true/\κd9 i b=some (q,c),κ,rfl,hg.os,hg.tape,hg.output,hg.grow,?_,?_,?_,?_,λ_ _=>rfl,?_,?_,?_,?_⟩
 .exact λq hq hK=>hg.old q hq hK
 .exact λq hq=>.inl (hg.sup q hq)
 . intro q hq;rcases hq with h|⟨b,c,hb,hk⟩|⟨i,d,b,c,hd,hb,hk⟩
   .exact hg.snew q h
   .have hb':b<300:=zon (m:=[bA x,bR (walkW g ev).2]) (by kernel_rfl) b hb;exact .inr (hg.own b q c (by omega) hb hk)
   .exact .inr (ho.far i (deskM d) b q c (by simp[mems,hd]) hb hk).2
 . intro q hq;rcases hq with h|⟨b,c,hb,hk⟩|⟨i,d,b,c,hd,hb,hk⟩
   .exact hg.slt q h
   .obtain⟨ent,he⟩:=zaN.1 hb;have hE:=hg.ents b ent he;rw[hk]at hE;exact hE.lt
   .exact(ho.far i (deskM d) b q c (by simp[mems,hd]) hb hk).1.1
 .intro b g c _ hb;simp[Dm,Ab.look]at hb
 .intro b b' g c c' hb;simp[Dm,Ab.look]at hb
 .intro b ent hb;simp[Ab.look]at hb
 ·
  obtain⟨vs,rfl,hsz,hvs⟩:=hv2.tup_inv;refine CRel.tup _ _ (by simpa using hsz) (λj c y hj hy=>?_);have hS':∀q,S2 q->(λq=>S2 q\/(∃b c,(Ab.look [bA x,bR (walkW g ev).2] b).isSome=true/\κ2 b=some (q,c))\/∃i d b c,(walkW g ev).1 i=some d/\(Ab.look (deskM d) b).isSome=true/\κd9 i b=some (q,c)) q:=λq hq=>.inl hq
  match j with
  |0 =>
    simp only[zb3,zaj]at hj;subst hj;have hv0:=hvs 0 _ y rfl hy;have hc0:CRel _ w11 (.fa 1 (rows x)) y:=zmK hg.ents hS' 5 hv0 (a':=.fa 1 (rows x)) (by simp only[snap,Ab.look,if_true];rw[zt8 x 0 (by omega)];rfl) (λb hb g c hk=>.inr (.inl ⟨b,c,ids_D hg.ents 5 _ _ hv0 b hb,hk⟩))
    cases hc0 with
    |fa _ _ a u hz hSa hc hr =>
      have hget:∀i c,((deskL (walkW g ev).1).map nDp)[i]?=some c->i<100/\c=nDp ((walkW g ev).1 i):=λi c hi=>by
       have hl:i<100:=by have:=(zao.1 hi).1;simpa[deskL]using this
       refine⟨hl,?_⟩;unfold deskL at hi
       simp_all
      refine .fa 1 _ a u (λcs hcs=>?_) hSa (λi j cs c hi hj=>?_) (λi j cs c hi hj=>?_)
      .obtain⟨o,_,rfl⟩:=zbA.1 hcs;cases o<;>rfl
      . obtain⟨hl,rfl⟩:=hget i cs hi
        have hj0:j=0:=by cases hq:(walkW g ev).1 i<;>rw[hq]at hj<;>cases j<;>simp[nDp]at hj ⊢
        subst hj0;exact hc i 0 _ _ (zt8 x i hl) rfl
      . obtain⟨hl,rfl⟩:=hget i cs hi
        have hj0:j=0:=by cases hq:(walkW g ev).1 i<;>rw[hq]at hj<;>cases j<;>simp[nDp]at hj ⊢
        subst hj0
        have hu:u i 0=.pointer (x i):=by exact(VRel.c (κ:=λ_=>none) (D:=λ_=>False) (hr i 0 _ _ (zt8 x i hl) rfl)).v_inv
        rw[hu];have hpi:=hp9 i hl
        cases hq:(walkW g ev).1 i with
        |none=>rw[hq]at hpi hj;simp[nDp]at hj;subst hj;rw[hpi];exact .v _
        |some d=>rw[hq]at hpi hj;obtain⟨g1,c1,hκ,hx⟩:=hpi;simp[nDp]at hj;subst hj;rw[hx];exact zNc (ho.obj i (deskM d) (by simp[mems,hq])) hS' (λb g c hb hk=>.inr (.inr ⟨i,d,b,c,hq,hb,hk⟩)) hκ
  |1=>simp only[zfQ,zb3,zaj]at hj;subst hj;have hv1:=hvs 1 _ y rfl hy;exact zmK hg.ents hS' 5 hv1 (by simp[snap,Ab.look]) (λb hb g c hk=>.inr (.inl ⟨b,c,ids_D hg.ents 5 _ _ hv1 b hb,hk⟩))
  |j+2=>simp at hj
end
end
def zr7{s:zam}{e:zad}{q:Nat}(h:fitS s e=some q):∃x p y,zf4 s.c e.h=some x/\eligB s.k e.a.b x=true/\zgB s.u x=some (q,p)/\0<=e.x/\p.g[e.x.toNat]?=some y/\y.r=1/\permB y e.s=true/\e.A=x.A:=by
 unfold fitS at h
 grind
def c_seedOf(s:zam)(n:Int)(hl:s.E.length<=1000000):cw 144 [.agg (zap s),I n] []=some (zlv ((seedS s n).getD ⟨0,[]⟩,(seedS s n).isSome)):=by
 refine zF5 ?_;unfold seedS;refine ziS s.E (λy=>y.h==n) (λi=>zml s n i) (λo=>zlv (((o.map (·.2)).getD ⟨0,[]⟩),(o.map (·.2)).isSome)) ?_ ?_ ?_
 .exact zp9 (by simp(disch:=omega)only[zH];rfl)
 .intro i hi h;refine zp9 ?_;simp(disch:=omega)only[zF,zmN,zaa hi,h,zaO];rfl
 .intro i hi y h hk;refine zp9 ?_;simp(disch:=omega)only[zI,zmN,zaa hi,h,zay,hk]
section
variable{s:zam}(hok:CallOK zP (single 151 zOrc))(hs:zb2 s)
include hok hs
def c_fits(x:aW)(e:zad)(hr:0<=e.a.b/\e.a.b<100)(hp:e.A.length<=1000000):cw 143 [.fa 1 (rows x),.agg (zap s),.agg (zab e)] []=some (zi0 (match x e.a.b.toNat,fitS s e with
   |some p,some q=>((q:Int),some p)
   |_,_=>(0,none))):=by
 have hsl:=hs.scripts.1;have hpl:=hs.papers;have hml:=hs.markers.1;have hlen:=hs.len;refine zAz ?_;have hrow:=zt8 x e.a.b.toNat (by omega)
 rw[zar hr.1,cPQ]
 cases hx:x e.a.b.toNat with
 |none=>rw[hx]at hrow;rw[zDe hrow];refine zv5 ?_;rw[zAp s _ (by omega),zin];rfl
 |some p =>
   rw[hx]at hrow;rw[zJs hrow];refine zuU ?_;rw[zAp s _ (by omega),zin];unfold fitS
   cases h1:zf4 s.c e.h with
   |none=>rfl
   |some y =>
     simp only[zO,scR];rw[c_Eligible hok s.k _ y (by omega) (λm hm=>hs.short2 m hm),zas]
     cases h2:eligB s.k e.a.b y with
     |false=>rfl
     |true =>
       simp only[zO,if_true];rw[zCI s y (by omega),zgf]
       cases h3:zgB s.u y with
       |none=>rfl
       |some kp =>
         obtain⟨k,pp⟩:=kp;obtain⟨hk,_⟩:=zfb h3;obtain⟨hkl,_⟩:=zao.1 hk;have hkc:k<s.V.length:=by omega
         simp only[zO,ixR];by_cases h4:0<=e.x
         case neg=>rw[zaB (by omega),if_neg h4];rfl
         rw[zaH (by omega),if_pos h4,cPQ,zaf,zeM,hk,zae,zac];by_cases h5:e.x.toNat<pp.g.length
         case neg=>rw[zaB (by omega),zhJ (by omega)];rfl
         rw[zaH (by omega),cPQ,zeM,hk,zae,zar h4,zen,zaa h5,zae];simp only;by_cases h6:pp.g[e.x.toNat].r=1
         case neg=>rw[show(pp.g[e.x.toNat].r !=1)=true by simp[h6],zaO,if_neg (λh=>h6 h.1)];rfl
         rw[show(pp.g[e.x.toNat].r !=1)=false by simp[h6],zay]
         have fin:∀b:Bool,permB pp.g[e.x.toNat] e.s=b->brn (!b) (some (AV.tup [I 0,.v (.pointer none)],[])) (ziF e p (y,true) ((k:Int),true))=some (zi0 (match some p,if pp.g[e.x.toNat].r=1/\permB pp.g[e.x.toNat] e.s=true/\e.A=y.A then some k else none with
           |some p,some q=>((q:Int),some p)
           |_,_=>(0,none))):=by
          intro b hb
          cases b with
          |false=>rw[zbj,zaO,if_neg (λh=>by simp_all)];rfl
          |true =>
            rw[zaG,zay];refine zv6 ?_;rw[c_Equal _ _ hp,zas];by_cases h7:e.A=y.A
            .rw[zbq h7,zaG,zay,if_pos ⟨h6,hb,h7⟩];rfl
            .rw[zbJ h7,zbj,zaO,if_neg (λh=>h7 h.2.2)];rfl
         by_cases h7:e.s=-1
         . rw[show(e.s !=-1)=false by simp[h7],zay];have:=fin true (by unfold permB;rw[if_pos h7])
           simp_all
         . rw[show(e.s !=-1)=true by simp[h7],zaO,cPQ,zeM,hk,zae,cPQ,zkB,zaa hkc,zae];have hc:=zMT pp s.V[k] e.x.toNat pp.g[e.x.toNat] e.s (hs.short _ (zau hkc)) (hs.schemes k pp _ hk (zaa hkc)) (zaa h5);rw[show((e.x.toNat:Nat):Int)=e.x by omega]at hc
           simp_all
end
def lastW_len{r:zbK}{w:zck}{b:Bool}(h:(w.J.length:Int)<=r.Z):((lastW r w b).length:Int)<=r.Z:=by
 unfold lastW
 grind
def zGC{r:zbK}{w:zck}{b:Bool}(h:(w.J.length:Int)<=r.Z):zoI r (stepW r w b):=⟨lastW_len h,rfl⟩
def OkMon.blank{r:zbK}(h:OkMon r):zoI r ⟨[],false⟩:=by refine⟨by have:=h.2.2.1;simp;omega,?_⟩;have:=h.2.2.2;show false=decide (r.S<=failsN []);rw[eq_comm,decide_eq_false_iff_not];show¬r.S<=(0:Int);omega
section
variable{r:zbK}{k:Nat}{d:zaF}
def DeskOk.zero(h:OkMon r)(l:Int):DeskOk r 0 (desk0 l):=⟨by simp[desk0],by simp[desk0],by simp[desk0],h.blank,by simp[desk0]⟩
def DeskOk.up(h:DeskOk r k d):DeskOk r (k+1) d:=⟨by have:=h.marks;omega,by have:=h.susp;omega,h.period,h.watch,h.some⟩
def DeskOk.rein(hm:OkMon r)(h:DeskOk r k d)(a:zbf):DeskOk r (k+1) (reinS a d):=by
 unfold reinS;split
 .exact⟨by have:=h.marks;simp;omega,by have:=h.susp;simp;omega,by simp,hm.blank,by simp⟩
 .exact h.up
def DeskOk.app(h:DeskOk r k d)(m:zcq):DeskOk r (k+1) { d with marks:=d.marks++[m] }:=
 ⟨by have:=h.marks;simp;omega,by have:=h.susp;simp;omega,by have:=h.period;simp;omega,h.watch,h.some⟩
def DeskOk.note(h:DeskOk r k d){s:zam}(hr:s.H=r)(p:zaQ)(sd:GSeed)(e:zad):DeskOk r (k+1) (noteS s p sd e d):=by
 subst hr;have h1:=h.marks;have h2:=h.susp;have h3:=h.period;unfold noteS;split
 .exact h.up
 . simp only;split
   .exact⟨by grind,by grind,h3,h.watch,h.some⟩
   . split
     .exact⟨by grind,by grind,h3,h.watch,h.some⟩
     . split
       .unfold suspS;exact⟨by simp;omega,by simp;omega,by simpa using h3,zGC h.watch.1,λ_=>by simp⟩
       . rename_i hn;split
         .exact⟨by grind,by grind,h3,zGC h.watch.1,λq=>absurd q hn⟩
         .exact⟨by grind,by grind,h3,zGC h.watch.1,λq=>absurd q hn⟩
end
def zr6{e:zad}(h:eventB e=true):zv9 e:=by unfold eventB stampB at h;simp only[zU,zbV]at h;obtain⟨⟨⟨⟨h1,h2⟩,h3⟩,h4⟩,h5⟩:=h;exact⟨h1,h2,h3,h4,h5⟩
def ok_eventB{e:zad}(h:zv9 e):eventB e=true:=by unfold eventB stampB;simp only[zU,zbV];exact⟨⟨⟨⟨h.1,h.2.1⟩,h.2.2.1⟩,h.2.2.2.1⟩,h.2.2.2.2⟩
section
variable(okI:CallOK zP (single 151 zOrc))(okB:CallOK zP (single 245 zOrc))
include okI okB
def legs{s:zam}(hs:zb2 s):Legs s where
 rein:=reinS
 note:=noteS s
 fit:=fitS s
 seed:=seedS s
 ok:=λe=>eventB e=true
 D:=DeskOk s.H
 ranges:=λe he=>by have h:=zr6 he;have h1:=h.1;have h2:=h.2.2.2.2;unfold zoH at h1;unfold OkKind at h2;omega
 D0:=λl=>DeskOk.zero hs.monitor l
 Dup:=λ_ _ h=>h.up
 Dlen:=λ_ _ h=>h.marks
 Drein:=λ_ _ _ _ h=>h.rein hs.monitor _
 Dnote:=λ_ _ _ _ _ _ h=>h.note rfl _ _ _
 Dapp:=λ_ _ _ _ h=>h.app _
 fit_lt:=λe q h=>by obtain⟨x,p,y,_,_,h3,_⟩:=zr7 h;exact(zao.1 (zfb h3).1).1
 cRein:=λk d e hk _ h=>zMV d e.a (by have:=h.susp;omega) h.some
 cNote:=λk d p sd e hk _ h hp hfit hseed=>by
  have hpm:=(hs.schemes · p · · ·)
  obtain⟨q,hq,hpq⟩:=hfit;obtain⟨x,p',y,h1,_,h3,_⟩:=zr7 hq
  have hpp:p'=p:=by have:=(zfb h3).1;rw[hpq]at this;injection this with this;exact this.symm
  subst hpp;unfold seedS at hseed
  cases hsd:seedOf s.E e.h with
  |none=>simp[hsd]at hseed
  |some js =>
    obtain⟨j,sd'⟩:=js;simp only[hsd,zbk,zaj]at hseed;subst hseed;obtain⟨hj,hje,_⟩:=fnd_at hsd;have hse:sd'.h=e.h:=by simpa using hje
    obtain⟨k2,p2,h4,h5⟩:=hs.seed sd' (zav hj);unfold zfA at h4;rw[hse,h1,zae,h3]at h4;injection h4 with h4;cases h4;have hlen:p'.g.length<=24:=(zb2.okPaper hs hpq).2.2.1.2;exact c_note okB s hs.monitor p' sd' e d h hk hlen h5.1
 cFits:=λx e he=>by have h:=zr6 he;have h1:=h.1;have h2:=h.2.2.1;unfold zoH at h1;exact c_fits okI hs x e (by omega) (by omega)
 cSeed:=λn=>c_seedOf s n (by have:=hs.seeds;omega)
def walk_ok:CallOK zP (single 95 zOrc):=by
 intro f args ms r ms' h;unfold single at h;split at h
 case isFalse=>cases h
 rename_i hf;subst hf;simp only[zOrc,if_true]at h
 cases ms with
 |cons a m=>cases h
 |nil =>
 simp only[oWalk]at h;split at h
 case isFalse=>cases h
 rename_i hex;have hsp:=hex.choose_spec.choose_spec;generalize hex.choose_spec.choose=ev at h hsp;generalize hex.choose=s at h hsp;obtain⟨ha,hs,hev,hlen⟩:=hsp;subst ha;injection h with h;have h1:r=.tup [.fa 1 ((deskL (walkS s ev).1).map nDp),.mp (mL (walkS s ev).2)]:=(congrArg Prod.fst h).symm;have h2:ms'=[]:=(congrArg Prod.snd h).symm;subst h1 h2;refine⟨zM8,λw S κ vals hvl hS hv _ _=>?_⟩;have hm:=hs.markers;exact walk_calls (legs okI okB hs) (λm hm'=>by have:=(hm.2.1 m hm').1.1;omega) (by have:=hm.1;omega) hev (by omega) w S κ vals (by simpa using hvl) hS hv
end
end Go.Proofs.YtlecnobdfhlmnaaGreat
end
