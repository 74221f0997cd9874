/- Arbitration: what the functions compute (verdicts, totals). -/
import Derived.Test.YtlecnobdfhlmnaaGreatJ1
import Derived.Test.YtlecnobdfhlmnaaGreatJ0
set_option linter.all false
noncomputable section
set_option maxRecDepth 20000
namespace Go.Proofs.YtlecnobdfhlmnaaGreat
open Go.Ab
def c_CountG(m:zaJ)(n p:Int)(hl:m.M.length<=1000000):cw 255 [.agg (zaT m),I n,I p] []=some (zjY (countG m n p)):=c_Counting m n p hl
def zE8{s:zam}(hs:zb2 s){n:Int}{i:Nat}{y:GSeed}(h:seedOf s.E n=some (i,y)):∃k p,zfA s n=some (k,p)/\znk p y.T:=by
 obtain⟨h1,h2,_⟩:=fnd_at h;obtain⟨k,p,h3,h4⟩:=hs.seed y (zav h1)
 grind
def zh6(g:za6):0<=worth g:=by unfold worth;split<;>omega
def zwa(g:za6):cw 267 [.agg (zaE g)] []=some (zbv (worth g)):=zBU rfl
def c_decisive(l:aL)(hl:l.length<=1000000):cw 266 [.sl 8 (mC l)] []=some (zjX (zlm l)):=by
 refine zyw ?_;refine zxQ l (λi r=>∀(b:za6) (f:Bool),zei l b f (i:Nat)=some (zjX (r.foldl stepD (b,f)))) ?_ ?_ _ _
 .intro b f;refine zp5 ?_;rw[zac,zfy,iNQ];rfl
 . intro i x r hi hx hr ih b f;refine zp5 ?_;rw[zac,zfy,iPQ,cPQ,zaf,zes,zaa hi,zae,hx,w6Q];have e1:((i:Int)+1)=((i+1:Nat):Int):=by omega
   rw[e1,ih,ih,zzi _ _,za7,zfy,zfy,zfy,zcG];unfold stepD;by_cases h1:x.I<2
   .grind
   . rw[if_neg h1,if_neg h1]
     cases f with
     |false=>simp
     |true =>
       simp only[zO,Bool.true_eq_false,false_or];by_cases h2:b.I<x.I
       .grind
       . rw[if_neg h2];by_cases h3:x.I=b.I
         . simp only[zZ,h3]
           grind
         .rw[show(x.I==b.I)=false by simpa using h3,zay,if_neg (by rintro(h|h)<;>first|omega|exact h3 h.1)]
def c_Div64(a b:Int)(ha:0<=a)(ha2:a<18446744073709551616)(hb:0<b):cw 271 [.v (.int .u64 0),.v (.int .u64 a),.v (.int .u64 b)] []=some (zw3 (a.tdiv b,a.tmod b)):=by
 refine zL0 ?_;have h1:(b==0)=false:=by simpa using(show b≠0 by omega)
 have h2:0<=a.tdiv b:=Int.tdiv_nonneg ha (by omega);have h3:a.tdiv b<=a:=Int.tdiv_le_self b ha;rw[h1,zay,zfy,iNQ,cPQ,cPQ,zz0 h2 (by omega)];rfl
def sumW_acc(l:aL)(s:Int):l.foldl (λs g=>s+worth g) s=s+sumW l:=by
 unfold sumW
 induction l generalizing s with
 |nil=>simp
 |cons g r ih=>grind
def zuI(g:za6)(l:aL):sumW (g::l)=worth g+sumW l:=by
 have:=sumW_acc l (0+worth g);unfold sumW at this ⊢
 simp_all
def zoT(l:aL):0<=sumW l:=by
 induction l with
 |nil=>simp[sumW]
 |cons g r ih=>rw[zuI];have:=zh6 g;omega
def sumW_le(l:aL)(M:Int)(h:∀g∈l,worth g<=M):sumW l<=l.length*M:=by
 induction l with
 |nil=>simp[sumW]
 |cons g r ih =>
   have h1:=ih (λg hg=>h g (by simp[hg]));have h2:=h g (by simp);rw[zuI,zcA]
   grind
def c_mean(l:aL)(hl:l.length<=1000000)(h0:l≠[])(hv:∀g∈l,g.s<=1099511627776):cw 268 [.sl 8 (mC l)] []=some (zbv (mean l)):=by
 have hw:∀g∈l,worth g<=1099511627776:=λg hg=>by have:=hv g hg;unfold worth;split<;>omega
 have hpos:0<l.length:=zfR.2 h0
 have hs:sumW l<=1099511627776000000:=by have h1:=sumW_le l _ hw;have h2:(l.length:Int)*1099511627776<=1000000*1099511627776:=zhw (by omega) (by omega);omega
 have hs0:=zoT l;refine zC0 ?_;refine zxQ l (λi r=>∀(s:Int),0<=s->s+sumW r=sumW l->zkW l 0 s (i:Nat)=some (zbv (mean l))) ?_ ?_ 0 (by omega) (by omega)
 . intro s hs' he;have hse:s=sumW l:=by simpa[sumW]using he
   refine zs4 ?_;rw[zac,zfy,iNQ,zz0 (by omega) (by omega),c_Div64 s l.length hs' (by omega) (by omega),zFR,zfy];have h1:0<=s.tmod l.length:=Int.tmod_nonneg _ hs';have h2:s.tmod l.length<l.length:=zfC _ (by omega);have h3:0<=s.tdiv l.length:=Int.tdiv_nonneg hs' (by omega);have h4:s.tdiv l.length<=s:=Int.tdiv_le_self _ hs';rw[zz0 (by omega) (by omega)];show(if(l.length:Int)<=2*s.tmod l.length then some (I (w64 (wu64 (s.tdiv l.length+1))),[])else some (I (w64 (s.tdiv l.length)),[]))=_;rw[zz0 (by omega) (by omega),w6Q,w6Q,hse];unfold mean;split<;>rfl
 . intro i x r hi hx hr ih s hs' he;refine zs4 ?_;rw[zac,zfy,iPQ,cPQ,zaf,zes,zaa hi,zae,hx,zwa x,za7,w6Q];have hx0:=zh6 x;rw[zuI]at he;have hr0:=zoT r;rw[zz0 hx0 (by omega)];have e2:(s.toNat+(worth x).toNat+Int.toNat 0) / 2 ^ 64=0:=zhi (by simp;omega);have e3:(s.toNat+(worth x).toNat+Int.toNat 0) % 2 ^ 64=s.toNat+(worth x).toNat:=by rw[ze4 (by simp;omega)];simp
   rw[e2,e3];have e4:Int.ofNat (s.toNat+(worth x).toNat)=s+worth x:=by simp;omega
   rw[e4,show wu64 (0+Int.ofNat 0)=0 from rfl]
   grind
def minW_bd(l:aL):∀(m:Int),0<=m->0<=minW l m/\minW l m<=m:=by
 induction l with
 |nil=>intro m hm;exact⟨hm,zfP _⟩
 |cons g r ih =>
   intro m hm;have hw:=zh6 g;simp only[minW,zcG];split
   .have:=ih (worth g) hw;unfold minW at this;omega
   .exact ih m hm
def maxW_bd(l:aL)(M:Int)(h:∀g∈l,worth g<=M):∀(m:Int),m<=M->m<=maxW l m/\maxW l m<=M:=by
 induction l with
 |nil=>intro m hm;exact⟨zfP _,hm⟩
 |cons g r ih =>
   intro m hm;have hw:=h g (by simp);have ih':=ih (λg hg=>h g (by simp[hg]));simp only[maxW,zcG];split
   .have:=ih' (worth g) hw;unfold maxW at this;omega
   .exact ih' m hm
def c_Decide(r:zbg)(l:aL)(hl:l.length<=1000000)(hv:∀g∈l,g.s<=1099511627776):cw 254 [.agg (zbt r),.sl 8 (mC l)] []=some (zgm (zgQ r l)):=by
 have hw:∀g∈l,worth g<=1099511627776:=λg hg=>by have:=hv g hg;unfold worth;split<;>omega
 refine zAx ?_;rw[c_decisive l hl,zva,zwa _,za7];unfold zgQ
 cases hb:(zlm l).2 with
 |true=>rw[if_pos rfl];rfl
 |false =>
   rw[iNs,zac,zay]
   match l,hl,hv,hw with
   |[],_,_,_=>rfl
   |[g],_,_,_=>rw[show(((([g]:List za6).length:Nat):Int)==0)=false from rfl,zay,show(((([g]:List za6).length:Nat):Int)==1)=true from rfl,zaO,zar (zfP 0)];rw[zes,show([g]:List za6)[Int.toNat 0]?=some g from rfl,zae,zwa _,za7];cases r.xn<;>rfl
   |g::g'::t,hl,hv,hw =>
     have h1:((((g::g'::t:List za6).length:Nat):Int)==0)=false:=by simp;omega
     have h2:((((g::g'::t:List za6).length:Nat):Int)==1)=false:=by simp;omega
     rw[h1,zay,h2,zay,zar (zfP 0),zes,show(g::g'::t:List za6)[Int.toNat 0]?=some g from rfl,zae,zwa _,za7,zar (zfP 0),zes,show(g::g'::t:List za6)[Int.toNat 0]?=some g from rfl,zae,zwa _,za7];show zh3 r (g::g'::t) (worth g) (worth g) 0=some (zgm (if r.K<maxW (g::g'::t) (worth g)-minW (g::g'::t) (worth g)then⟨2,0⟩else⟨3,mean (g::g'::t)⟩));generalize hL:g::g'::t=L at *;have hne:L≠[]:=by rw[<-hL];simp
     have hg:=hw g (by rw[<-hL];simp);have hg0:=zh6 g;refine zxQ L (λi s=>∀(a b:Int),minW s a=minW L (worth g)->maxW s b=maxW L (worth g)->zh3 r L a b (i:Nat)=some (zgm (if r.K<maxW L (worth g)-minW L (worth g)then⟨2,0⟩else⟨3,mean L⟩))) ?_ ?_ (worth g) (worth g) rfl rfl
     .intro a b ha hb;have ha':a=minW L (worth g):=ha;have hb':b=maxW L (worth g):=hb;have q1:=minW_bd L (worth g) hg0;have q2:=maxW_bd L _ hw (worth g) hg;refine zrg ?_;rw[zac,zfy,iNQ,zfy,w6Q,c_mean L hl hne hv,za7,ha',hb'];split<;>rfl
     . intro i x s hi hx hr ih a b ha hb;refine zrg ?_;rw[zac,zfy,iPQ,cPQ,zaf,zes,zaa hi,zae,hx,zwa x,za7,za7,w6Q];have e1:((i:Int)+1)=((i+1:Nat):Int):=by omega
       rw[e1];exact ih _ _ ha hb
def ztm(r:zbg):cw 52 [.agg (zbt r)] []=some (zbv (chkR r)):=by
 refine zBS ?_;unfold chkR;simp only[zV];split
 .rfl
 .split<;>rfl
def c_right(r:zbg)(s:zam)(hs:zb2 s):cw 210 [.agg (zbt r),.agg (zap s)] []=some (zat (chkR r==0)):=by refine zBT ?_;simp only[zZ,zo9 hs,za7,ztm,za7];rfl
def zLP(s:zam)(n:Int)(hl:s.E.length<=1000000):cw 253 [.agg (zap s),I n] []=some (ziA (seedR (seedOf s.E n))):=by
 refine zwI ?_;refine ziS s.E (λy=>y.h==n) (λi=>zie s n i) (λo=>ziA (seedR o)) ?_ ?_ ?_
 .refine zkD ?_;simp(disch:=omega)only[zH];rfl
 .intro i hi h;refine zkD ?_;simp(disch:=omega)only[zF,zmN,zaa hi,h,zaO];rfl
 .intro i hi y h hk;refine zkD ?_;simp(disch:=omega)only[zI,zmN,zaa hi,h,zay,hk]
def SmallM(m:zaJ):Prop:=m.M.length<=1000000/\∀g∈m.M,g.s<=1099511627776
def SmallM.count{m:zaJ}(h:SmallM m)(n p:Int):(countG m n p).length<=1000000/\∀g∈countG m n p,g.s<=1099511627776:=
 ⟨zbY (zcv _ _) h.1,λg hg=>h.2 g (zcf.1 hg).1⟩
def c_verdicts(r:zbg)(s:zam)(hs:zb2 s)(m:zaJ)(hm:SmallM m)(x:zaY)(hx:x∈s.c):cw 211 [.agg (zbt r),.agg (zap s),.agg (zaT m),.agg (za0 x)] []=some (zh5 (verdS r s m x)):=by
 have hx60:=hs.scripts.1;have hp32:=hs.papers;have hsd:=hs.seeds;obtain⟨k,p,c,hk,hc,ha⟩:=hs.script x hx;have hpk:=(zfb hk).1;have hok:=hs.schemes k p c hpk hc;have hparts:=hok.1.2.2.1;have hwl:=hok.2.2.1;have hpo:zfA s x.j=some (k,p):=by unfold zfA;rw[zp3 hs.scripts.2.2 hx];exact hk
 obtain⟨rc,erc,hrc,hrc2⟩:=zxE p c x.X (hs.short c (zav hc));have hz:=hrc.2 ⟨hok,ha⟩;have hcl:=hrc2 hz;obtain⟨rc1,rc2⟩:=rc;simp only at hz hcl;subst hz;subst hcl;unfold verdS;rw[hk];dsimp only;rw[hc];refine zyx ?_;simp(disch:=omega)only[zK,zCG s x.j (show s.c.length<=1000000 by omega) (show s.u.length<=1000000 by omega),hpo,ixR,zgf,zaf,zeM,hpk,zae,zkB,hc,erc,ze7,zLP s x.j (show s.E.length<=1000000 by omega),zf0,eq_self,zwd zcs,zbO];rw[<-zGs p.g.length (verdAt r m x p c (seedOf s.E x.j)) ⟨0,0⟩];refine zbW p.g (λi _=>zgk r m x p c (zhg p c x.X,0) (seedR (seedOf s.E x.j)) (mT (mkN p.g.length (verdAt r m x p c (seedOf s.E x.j)) ⟨0,0⟩ i.toNat)) i=some (zh5 (verdL r m x p c (seedOf s.E x.j)))) ?_ ?_
 .refine zp6 ?_;simp(disch:=omega)only[zH,zb0,zaf,zvX,mkN_all,zdj,eq_self,zbp];rfl
 . intro i hi _ _ ih;have hiw:i<c.v.length:=by omega
   have hix:((i:Int)+1).toNat=i+1:=by omega
   rw[hix]at ih;have hcl:i<(zhg p c x.X).length:=by simp[zhg];omega
   have hcv:(zhg p c x.X)[i]=zeh p c x.X i:=by simp[zhg]
   have hset:∀v,v=verdAt r m x p c (seedOf s.E x.j) i->(mkN p.g.length (verdAt r m x p c (seedOf s.E x.j)) ⟨0,0⟩ i).set i v=mkN p.g.length (verdAt r m x p c (seedOf s.E x.j)) ⟨0,0⟩ (i+1):=λv hv=>by rw[zwe hv]
   have m1011:(p.g[i].r=2\/c.v[i]≠0)->zhQ r m x p c (zhg p c x.X,0) (seedR (seedOf s.E x.j)) (mT (mkN p.g.length (verdAt r m x p c (seedOf s.E x.j)) ⟨0,0⟩ i)) i=some (zh5 (verdL r m x p c (seedOf s.E x.j))):=by intro hor;refine zuN ?_;simp(disch:=omega)only[za,zX,zac,zb0,zaR,zb6,zaa hcl,hcv,znn,zzz hi,zf3 zcs];rw[hset _ (by unfold verdAt;simp_all)];exact ih
   refine zp6 ?_;simp(disch:=omega)only[zF,zb0,zaR,zen,zaa hi,zb6,zaa hiw];by_cases h1:p.g[i].r=2
   .simp_all
   . simp only[show(p.g[i].r==2)=false by simpa using h1,zay];by_cases h2:c.v[i]=0
     . simp only[show(c.v[i] !=0)=false by simpa using h2,zay]
       have hva:verdAt r m x p c (seedOf s.E x.j) i=match seedOf s.E x.j with
         |some (_,sd)=>⟨3,sd.T.getD i 0⟩
         |none=>zgQ r (countG m x.j i):=by
        unfold verdAt;rw[zaa hi,zaa hiw];dsimp only;rw[if_neg (by rintro(h|h)<;>contradiction)];rfl
       cases ho:seedOf s.E x.j with
       |some q =>
         obtain⟨q,sd⟩:=q;obtain⟨k',p',hpo',hmk⟩:=zE8 hs ho;rw[hpo]at hpo';cases hpo';have him:i<sd.T.length:=by have:=hmk.1;omega
         rw[ho]at hset hva ih;simp(disch:=omega)only[zX,seedR,zaO,zb6,zaa him,znn,zzz hi,zar,zf3 zcs];rw[hset _ (by rw[hva];simp[him])];simp only[seedR]at ih;exact ih
       |none=>rw[ho]at hset hva ih;have hct:=hm.count x.j i;simp(disch:=omega)only[seedR,zay,c_CountG m x.j i hm.1,zsy,zac,zaW,zbp];rw[zaz (by simp)];simp(disch:=omega)only[zX,c_Decide r _ hct.1 hct.2,zuu,znn,zzz hi,zar,zf3 zcs];rw[hset _ hva.symm];simp only[seedR]at ih;exact ih
     . simp only[show(c.v[i] !=0)=true by simpa using h2,zaO]
       grind
def zJ3{r:zbg}{s:zam}(hs:zb2 s){m:zaJ}{x:zaY}:(verdS r s m x).length<=24:=by
 unfold verdS
 cases hk:zgB s.u x with
 |none=>simp
 |some q=>obtain⟨k,p⟩:=q;have:=(hs.okPaper (zfb hk).1).2.2.1.2;simp[verdL];omega
def zAl(r:zbg)(s:zam)(hs:zb2 s)(m:zaJ)(hm:SmallM m)(n:Int):cw 152 [.agg (zbt r),.agg (zap s),.agg (zaT m),I n] []=some (zil (if chkR r=0 then match zf4 s.c n with|some x=>(verdS r s m x,0)|none=>([],4)else([],1))):=by
 have hx60:=hs.scripts.1;refine zyv ?_;simp only[c_right r s hs,zas];by_cases hr:chkR r=0
 . rw[if_pos hr];simp only[zO,show(chkR r==0)=true by simpa using hr];have key:=ziS s.c (λx=>x.j==n) (λi=>ziT r s m n i) (λo=>zil (match o.map (·.2)with|some x=>(verdS r s m x,0)|none=>([],4))) ?_ ?_ ?_
   .exact key
   .refine zly ?_;simp(disch:=omega)only[zH];rfl
   .intro i hi h;refine zly ?_;simp(disch:=omega)only[zR,zF,zeC,zaa hi,h,zaO,c_verdicts r s hs m hm _ (zau hi),zvb];rw[zaz (by simp)];rfl
   .intro i hi y h hk;refine zly ?_;simp(disch:=omega)only[zI,zeC,zaa hi,h,zay,hk]
 .rw[if_neg hr];simp only[zW,show(chkR r==0)=false by simpa using hr];rfl
def zJP{x:GPart}(hx:OkPart x)(v:Int):permB x v=dec (PermP x v):=by
 have:=hx.1;unfold permB PermP;by_cases h:x.r=2
 .simp only[h,if_true];exact zf1 (by split<;>simp<;>omega)
 .simp only[h,if_false];exact zf1 (by split<;>simp<;>omega)
def zoG(p:zaQ)(c:zbu)(l:aC):Prop:=
 ∀(j:Nat) (x:GPart) (w v:Int),p.g[j]?=some x->c.v[j]?=some w->l[j]?=some v->w=0->PermP x v
def c_Marked(p:zaQ)(c:zbu)(l:aC)(hs:Short c)(hok:ze5 p c)(hl:l.length=p.g.length):cw 212 [.agg (zaU p),.agg (zbI c),.sl 1 (List.map zah l)] []=some (zat (dec (zoG p c l))):=by
 have hpl:=hok.1.2.2.1;have hwl:=hok.2.2.1;refine zHK ?_;simp only[zG,zju p c hs,zas,zbq hok,zaG,zac,hl];have H:=zlj p.g.length (λj hj=>c.v[j]'(by omega)=0->PermP p.g[j] (l[j]'(by omega))) (λi=>zkO p c l i) zat ?_ ?_ ?_
 . rw[H,zhz];constructor
   . intro h j x w v hx hw hv hz
     grind
   .intro h j hj hz;exact h j _ _ _ (zaa hj) (zaa (by omega)) (zaa (by omega)) hz
 .exact zqY (by simp(disch:=omega)only[zH];rfl)
 . intro i hi hn;have hiw:i<c.v.length:=by omega
   have hil:i<l.length:=by omega
   refine zqY ?_;have hw:c.v[i]=0:=zfm λh=>hn (λh'=>absurd h' h)
   have hp:¬PermP p.g[i] l[i]:=λh=>hn (λ_=>h)
   simp(disch:=omega)only[zW,zF,zen,zaa hi,zb6,zaa hiw,zaa hil,show(c.v[i]==0)=true by simpa using hw,zyo,zJP (hok.1.2.2.2.1 _ (zau hi)),zas,zbJ hp];rfl
 . intro i hi y hg hk;have hiw:i<c.v.length:=by omega
   have hil:i<l.length:=by omega
   refine zqY ?_;simp(disch:=omega)only[zI,zen,zaa hi,zb6,zaa hiw,zaa hil,zyo,zJP (hok.1.2.2.2.1 _ (zau hi)),zas,hk];by_cases hw:c.v[i]=0
   .simp only[zO,show(c.v[i]==0)=true by simpa using hw,zaO,zbq (hg hw)]
   .simp only[show(c.v[i]==0)=false by simpa using hw,zay]
def c_Total_1(i:Nat)(x:GPart)(c:zbu)(l:aC)(h1:i<c.v.length)(h2:i<l.length):cw 214 [I i,.agg (za8 x),.fp [.sl 1 (mU c.U),.sl 1 (List.map zah c.v)],.fp [.sl 1 (List.map zah l)]] []=some (zbv (termT x c.v[i] l[i])):=by
 refine zGd ?_;simp(disch:=omega)only[za,zb6,zaa h1,zaa h2,zae];unfold termT;simp only[zeB,beq_iff_eq];split
 .rfl
 .split<;>rfl
def c_sum(p:zaQ)(c:zbu)(l:aC)(hok:ze5 p c)(hl:l.length=p.g.length)(hm:zoG p c l):cw 213 [.agg (zaU p),.fn 214 [.fp [.sl 1 (mU c.U),.sl 1 (List.map zah c.v)],.fp [.sl 1 (List.map zah l)]]] []=some (zbv (sumT p.g c.v l)):=by
 have hpl:=hok.1.2.2.1;have hwl:=hok.2.2.1;refine zMk ?_;have loop:=zbW p.g (λi r=>∀a:Int,0<=a->a<=40*i->zqA p c l a i=some (zbv (a+sumT r (c.v.drop i.toNat) (l.drop i.toNat)))) ?_ ?_ 0 (by omega) (by omega)
 .rw[loop];simp
 .intro a _ _;refine zzY ?_;simp(disch:=omega)only[zH,sumT,zfx];rfl
 . intro i hi r _ ih a h0 h1;have hiw:i<c.v.length:=by omega
   have hil:i<l.length:=by omega
   have hix:((i:Int)+1).toNat=i+1:=by omega
   rw[hix]at ih;have hxo:=hok.1.2.2.2.1 _ (zau hi);have hmx:=hxo.1;have hw:=(hok.2.2.2 i _ (c.U[i]'(by have:=hok.2.1;omega)) _ (zaa hi) (zaa _) (zaa hiw)).2
   have hterm:0<=termT p.g[i] c.v[i] l[i]/\termT p.g[i] c.v[i] l[i]<=40:=by
    unfold termT;split
    .omega
    . split
      .omega
      . have:=hm i _ _ _ (zaa hi) (zaa hiw) (zaa hil) (by omega);unfold PermP at this
        grind
   refine zzY ?_;simp(disch:=omega)only[zI,zen,zaa hi,c_Total_1 i p.g[i] c l hiw hil,za7];rw[ih _ (by omega) (by omega),zbe hiw,zbe hil,sumT,Int.add_assoc]
def zIO(p:zaQ)(c:zbu)(l:aC)(hs:Short c)(hok:ze5 p c)(hl:l.length=p.g.length):cw 153 [.agg (zaU p),.agg (zbI c),.sl 1 (List.map zah l)] []=some (zjJ (bif dec (zoG p c l)then(sumT p.g c.v l,0)else(0,8))):=by
 refine zI7 ?_;simp only[zG,zju p c hs,zas,zbq hok,zaG,zac,hl,c_Marked p c l hs hok hl,zas];by_cases hm:zoG p c l
 .simp only[zO,zbq hm,c_sum p c l hok hl hm,za7,cond_true];rfl
 .simp only[zW,zbJ hm,cond_false];rfl
def zFf{r:zbg}{s:zam}{m:zaJ}{x:zaY}{k:Nat}{p:zaQ}(hk:zgB s.u x=some (k,p)):(verdS r s m x).length=p.g.length:=by unfold verdS;rw[hk];simp[verdL]
def c_Total(r:zbg)(s:zam)(hs:zb2 s)(m:zaJ)(hm:SmallM m)(hr:chkR r=0)(x:zaY)(hx:x∈s.c)(k:Nat)(p:zaQ)(c:zbu)(hk:zgB s.u x=some (k,p))(hc:s.V[k]?=some c)
  (hmk:stateL (verdS r s m x)=3->zoG p c ((verdS r s m x).map (·.s))):cw 104 [.agg (zbt r),.agg (zap s),.agg (zaT m),I x.j] []=some (zkC (if stateL (verdS r s m x)=3 then(3,sumT p.g c.v ((verdS r s m x).map (·.s)),0)else(stateL (verdS r s m x),0,0))):=by
 have hx60:=hs.scripts.1;have hp32:=hs.papers;have hpk:=(zfb hk).1;have hok:=hs.schemes k p c hpk hc;have hso:=zp3 hs.scripts.2.2 hx;have hpo:zfA s x.j=some (k,p):=by unfold zfA;rw[hso];exact hk
 have hvp:=zFf (r:=r) (m:=m) hk;have hvl:=zJ3 (r:=r) hs (m:=m) (x:=x);refine zoW ?_;simp only[zG,zAl r s hs m hm x.j,zkU,if_pos hr,hso];generalize hV:verdS r s m x=V at *
 have loop:=zbW V (λi rest=>∀(out:aC) (a:Int),(out.length:Int)=i->zkj s x.j (V,0) (List.map zah out) a i=some (zkC (if rest.foldl (λs v=>if v.xe<s then v.xe else s) a=3 then
    (bif dec (zoG p c (out++rest.map (·.s)))then(3,sumT p.g c.v (out++rest.map (·.s)),0)else(0,0,8))
   else(rest.foldl (λs v=>if v.xe<s then v.xe else s) a,0,0)))) ?_ ?_ [] 3 (by simp)
 . refine Eq.trans loop ?_;by_cases h3:stateL V=3
   .have h3':=h3;unfold stateL at h3';rw[if_pos h3',if_pos h3];simp only[zfp,zbq (hmk h3),cond_true]
   .have h3':=h3;unfold stateL at h3';rw[if_neg h3',if_neg h3];rfl
 . intro out a ho;refine zse ?_;simp(disch:=omega)only[zH,List.foldl_nil,zdH,zcu];by_cases h3:a=3
   . subst h3;simp(disch:=omega)only[za,zR,zG,zCG s x.j (show s.c.length<=1000000 by omega) (show s.u.length<=1000000 by omega),hpo,ixR,zgf,zeM,hpk,zae,zkB,hc,if_true];rw[zaz (by simp)];simp only[zIO p c out (hs.short c (zav hc)) hok (by omega),zkS];by_cases hmm:zoG p c out
     .simp only[zG,zbq hmm,cond_true];rfl
     .simp only[zbJ hmm,cond_false,show((8:Int) !=0)=true from rfl,zaO];rfl
   .simp only[show(a !=3)=true by simpa using h3,zaO,if_neg h3];rfl
 . intro i hi rest _ ih out a ho;refine zse ?_;simp(disch:=omega)only[zI,znn,zaa hi,zbp,zdL zah]
   grind
def zLZ(l:aL)(h:(zlm l).2=true):(zlm l).1∈l:=by
 have key:∀(r:aL) (b:za6×Bool),(∀g∈r,g∈l)->(b.2=true->b.1∈l)->(r.foldl stepD b).2=true->(r.foldl stepD b).1∈l:=by
  intro r
  induction r with
  |nil=>simp_all
  |cons g r ih =>
    intro b hr hb h;refine ih (stepD b g) (λx hx=>hr x (by simp[hx])) ?_ h;unfold stepD
    grind
 exact key l _ (λ_ h=>h) (by simp) h
def mean_bd(l:aL)(h0:l≠[])(M:Int)(hw:∀g∈l,worth g<=M):0<=mean l/\mean l<=M:=by
 have hpos:0<l.length:=zfR.2 h0;have h1:=sumW_le l M hw;have h2:=zoT l;have h3:0<=(sumW l).tmod l.length:=Int.tmod_nonneg _ h2;have h4:(sumW l).tmod l.length<l.length:=zfC _ (by omega);have h5:0<=(sumW l).tdiv l.length:=Int.tdiv_nonneg h2 (by omega);have h6:=Int.mul_tdiv_add_tmod (sumW l) l.length;unfold mean;split
 . refine⟨by omega,?_⟩;by_cases hq:M<=(sumW l).tdiv l.length
   .have:=zhE hq (show(0:Int)<=(l.length:Int)by omega);omega
   .omega
 . refine⟨h5,?_⟩;by_cases hq:M+1<=(sumW l).tdiv l.length
   . have:=zhE hq (show(0:Int)<=(l.length:Int)by omega)
     grind
   .omega
def decideV_bd(r:zbg)(l:aL)(M:Int)(hM:0<=M)(hw:∀g∈l,worth g<=M):(0<=(zgQ r l).xe/\(zgQ r l).xe<=3)/\0<=(zgQ r l).s/\(zgQ r l).s<=M:=by
 unfold zgQ;split
 .rename_i h;exact⟨by simp,zh6 _,hw _ (zLZ l h)⟩
 . split
   .simp_all
   . rename_i g _ ;split
     .simp_all
     .exact⟨by simp,zh6 _,hw g (by simp)⟩
   . split
     .simp_all
     .exact⟨by simp,mean_bd _ (by simp) M hw⟩
def zKC{p:zaQ}{c:zbu}{a:aC}{i:Nat}{y:GPart}(hy:p.g[i]?=some y)(ho:OkPart y):0<=(if 0 > zeh p c a i then 0 else zeh p c a i)/\(if 0 > zeh p c a i then 0 else zeh p c a i)<=y.xb/\PermP y (if 0 > zeh p c a i then 0 else zeh p c a i):=by
 have hm:=ho.1;have hk:=kind2 ho
 have key:zeh p c a i=y.xb/\y.r=2\/zeh p c a i<=0:=by
  unfold zeh;rw[hy];split
  .grind
  .right;omega
 unfold PermP
 grind
def zk8(s:zam)(g:za6):Prop:=∃e,FitsE s e/\g.h=e.h/\g.x=e.x/\g.s=e.s
def verd_ok(r:zbg)(s:zam)(hs:zb2 s)(m:zaJ)(hg:∀g∈m.M,zk8 s g)(x:zaY)(hx:x∈s.c)(k:Nat)(p:zaQ)(c:zbu)(hk:zgB s.u x=some (k,p))(hc:s.V[k]?=some c)
  (i:Nat) (y:GPart) (hy:p.g[i]?=some y):(0<=(verdAt r m x p c (seedOf s.E x.j) i).xe/\(verdAt r m x p c (seedOf s.E x.j) i).xe<=3)/\0<=(verdAt r m x p c (seedOf s.E x.j) i).s/\(verdAt r m x p c (seedOf s.E x.j) i).s<=y.xb/\PermP y (verdAt r m x p c (seedOf s.E x.j) i).s:=by
 have hpk:=(zfb hk).1;have hok:=hs.schemes k p c hpk hc;have hyo:OkPart y:=hok.1.2.2.2.1 y (zav hy);have hy1:=hyo.1;have hlt:=(zao.1 hy).1;have hiw:i<c.v.length:=by have:=hok.2.2.1;omega
 have hso:=zp3 hs.scripts.2.2 hx;have hpo:zfA s x.j=some (k,p):=by unfold zfA;rw[hso];exact hk
 unfold verdAt;rw[hy,zaa hiw];dsimp only;split
 .exact⟨by simp,zKC hy hyo⟩
 . rename_i hn;have hk1:y.r=1:=by have:=kind2 hyo;omega
   have perm:∀v,0<=v->v<=y.xb->PermP y v:=by intro v h0 h1;unfold PermP;rw[iNQ];omega
   cases ho:seedOf s.E x.j with
   |some q =>
     obtain⟨q,sd⟩:=q;obtain⟨k',p',hpo',hmk⟩:=zE8 hs ho;rw[hpo]at hpo';cases hpo';have him:i<sd.T.length:=by have:=hmk.1;omega
     have hb:=hmk.2 i y _ hy (zaa him)
     simp_all
   |none =>
     dsimp only
     have hw:∀g∈countG m x.j i,worth g<=y.xb:=by intro g hgm;obtain⟨hgm,hgp⟩:=zcf.1 hgm;simp only[zY]at hgp;obtain⟨e,⟨x',a1,_,_,k',p',y',a2,a0,a3,_,a4,_⟩,b1,b2,b3⟩:=hg g hgm;rw[<-b1,hgp.1,hso]at a1;cases a1;rw[hk]at a2;cases a2;rw[<-b2,hgp.2,zaf,hy]at a3;cases a3;unfold worth;split<;>omega
     obtain⟨h1,h2,h3⟩:=decideV_bd r _ y.xb (by omega) hw
     simp_all
def zAN(r:zbg)(s:zam)(hs:zb2 s)(m:zaJ)(hg:∀g∈m.M,zk8 s g)(x:zaY)(hx:x∈s.c)(k:Nat)(p:zaQ)(c:zbu)(hk:zgB s.u x=some (k,p))(hc:s.V[k]?=some c):zoG p c ((verdS r s m x).map (·.s)):=by
 intro j y w v hy _ hv _
 have hVe:verdS r s m x=(List.range p.g.length).map (verdAt r m x p c (seedOf s.E x.j)):=by unfold verdS;rw[hk];dsimp only;rw[hc];rfl
 have:=verd_ok r s hs m hg x hx k p c hk hc j y hy
 grind
def c_TotalG(r:zbg)(s:zam)(hs:zb2 s)(m:zaJ)(hm:SmallM m)(hg:∀g∈m.M,zk8 s g)(n:Int):cw 104 [.agg (zbt r),.agg (zap s),.agg (zaT m),I n] []=some (zkC (totR r s m n)):=by
 unfold totR;by_cases hr:chkR r=0
 . rw[if_pos hr]
   cases hso:zf4 s.c n with
   |none=>refine zoW ?_;simp only[zAl r s hs m hm n,if_pos hr,hso,zkU,show((4:Int) !=0)=true from rfl,zaO];rfl
   |some x =>
     obtain⟨hx,hxn⟩:=zrc hso;subst hxn;obtain⟨k,p,c,hk,hc,_⟩:=hs.script x hx;have:=c_Total r s hs m hm hr x hx k p c hk hc (λ_=>zAN r s hs m hg x hx k p c hk hc)
     simp_all
 .rw[if_neg hr];refine zoW ?_;simp only[zAl r s hs m hm n,if_neg hr,zkU,show((1:Int) !=0)=true from rfl,zaO];rfl
def zAj(r:zaP):cw 35 [.agg (zaK r)] []=some (zbv (chkA r)):=by
 refine zIS ?_;unfold chkA;simp only[zV]
 repeat' split
 all_goals first|rfl|omega
def c_seeds(s:zam)(hl:s.E.length<=1000000):cw 72 [.agg (zap s)] []=some (zlf (setM (s.E.map (·.h)) [])):=by
 refine zIV ?_;refine zbW s.E (λi r=>∀m:List (Int×Bool),zn6 s (mM m) i=some (zlf (setM (r.map (·.h)) m))) ?_ ?_ []
 .intro m;refine zw7 ?_;simp(disch:=omega)only[zH];rfl
 .intro i hi r _ ih m;refine zw7 ?_;simp(disch:=omega)only[zI,zmN,zaa hi];rw[zl0];exact ih _
def zGB(s:zam)(n:Int):(mfind n (setM (s.E.map (·.h)) [])).getD false=(seedOf s.E n).isSome:=by
 unfold seedOf;rw[zxT,fnd_any];simp only[mfind]
 grind
def markL(m:zaJ)(id:Int):List Int:=(m.M.filter λg=>g.q==id).map (·.h)
def zAm(m:zaJ)(id:Int)(hl:m.M.length<=1000000):cw 73 [.agg (zaT m),I id] []=some (zlf (setM (markL m id) [])):=by
 refine zEm ?_;refine zbW m.M (λi r=>∀f:List (Int×Bool),zjo m id (mM f) i=some (zlf (setM ((r.filter λg=>g.q==id).map (·.h)) f))) ?_ ?_ []
 .intro f;refine ztt ?_;simp(disch:=omega)only[zH];rfl
 . intro i hi r _ ih f;refine ztt ?_;simp(disch:=omega)only[zI,zes,zaa hi,zbU]
   cases m.M[i].q==id with
   |true=>rw[zaO,if_pos rfl,zl0];exact ih _
   |false=>simp_all
def zGr(m:zaJ)(id n:Int):(mfind n (setM (markL m id) [])).getD false=marksB m id n:=by
 rw[zxT];simp only[mfind];unfold markL marksB
 grind
structure SetOk(f:aS)(n:Int):Prop where
 nd:(f.map (·.1)).Nodup
 w:∀k∈f.map (·.1),W64 k
 len:(f.length:Int)<=n
def SetOk.put{f:aS}{n:Int}(h:SetOk f n){k:Int}(hk:W64 k):SetOk (mput k true f) (n+1) where
 nd:=(znL h.nd).1
 w:=λj hj=>by
   rcases(znL h.nd).2 j hj with e|e
   .rw[e];exact hk
   .exact h.w j e
 len:=by have h1:=h.len;have h2:(mput k true f).length<=f.length+1:=zt1;omega
def SetOk.up{f:aS}{n:Int}(h:SetOk f n):SetOk f (n+1):=⟨h.nd,h.w,by have:=h.len;omega⟩
def zJW{f:aS}{n:Int}(h:SetOk f n)(hn:n<=1000000):(callD zep (cw 74 [.mp (mM f)] []) λr=>callD zeY (cw 58 [.fn 126 [.fa 0 [[.mp (mM r)]]]] []) λk=>some (AV.sl 1 (List.map zah k),([]:Mem)))=some (zeW ((f.map (·.1)).mergeSort leI)):=by rw[c_keysK,zpu,c_sortedK f (by have:=h.len;omega) h.w h.nd,zgs];rfl
def zGA{x:zaY}(h:znP x):W64 x.j:=by unfold znP at h;unfold W64;omega
def zzh{s:zam}(hs:zl1 s.c)(h12:s.E.length<=1000000)(m:zaJ)(hm:m.M.length<=1000000)(a:zan):cw 21 [.agg (zap s),.agg (zaT m),.agg (zai a)] []=some (zeW (scopeL s m a)):=by
 have h60:=hs.1;refine zIT ?_;rw[zAk,zas]
 cases hv:zeA a with
 |false =>
   have e:scopeL s m a=[]:=by unfold scopeL;rw[zf6.2 (λx _=>by unfold scopeB;rw[hv];simp)];rfl
   rw[e];rfl
 |true =>
 rw[zaG,zay,c_seeds s (by omega),zj4]
 have fin:∀(B:zaY->Bool),(∀x,B x=scopeB s m a x)->((setM ((s.c.filter B).map (·.j)) []).map (·.1)).mergeSort leI=scopeL s m a:=by
  intro B hB;have hBs:B=scopeB s m a:=funext hB;have hn:(s.c.filter B).map (·.j)=scopeL s m a:=by rw[hBs];rfl
  have hasc:((s.c.filter B).map (·.j)).Pairwise (·< ·):=by have h:=zGu hs;rw[zdW]at h ⊢;exact h.filter _
  rw[zA5 _ _ (hasc.imp λh e=>by omega) (λ_ _=>rfl),zfp,show∀L:List Int,(L.map λn=>(n,true)).map (·.1)=L from λL=>by simp[zh7],asc_sorted hasc,hn]
 cases hk:(a.r==1)with
 |true =>
   rw[zaO,zAm m _ hm,zj4,<-fin (λx=>!(mfind x.j (setM (s.E.map (·.h)) [])).getD false&&((a.r==0&&x.y==a.y&&x.Q==a.a.b)||(mfind x.j (setM (markL m a.q) [])).getD false)) (λx=>by
    rw[zGB,zGr];unfold scopeB
    simp_all)]
   refine zbW s.c (λi r=>∀f:List (Int×Bool),SetOk f i->zij s a (setM (s.E.map (·.h)) []) (setM (markL m a.q) []) (mM f) i=some (zeW (((setM ((r.filter λx=>!(mfind x.j (setM (s.E.map (·.h)) [])).getD false&&((a.r==0&&x.y==a.y&&x.Q==a.a.b)||(mfind x.j (setM (markL m a.q) [])).getD false)).map (·.j)) f).map (·.1)).mergeSort leI))) ?_ ?_ [] ⟨zjh,by simp,by simp⟩
   .intro f hf;refine zw6 ?_;simp(disch:=omega)only[zH];exact zJW hf (by omega)
   . intro i hi r _ ih f hf;have hw:=zGA (hs.2.1 _ (zau hi))
     have m12:zjn s a (setM (s.E.map (·.h)) []) (setM (markL m a.q) []) (mM f) i s.c[i] (a.r==0&&s.c[i].y==a.y&&s.c[i].Q==a.a.b)=some (zeW (((setM (((s.c[i]::r).filter λx=>!(mfind x.j (setM (s.E.map (·.h)) [])).getD false&&((a.r==0&&x.y==a.y&&x.Q==a.a.b)||(mfind x.j (setM (markL m a.q) [])).getD false)).map (·.j)) f).map (·.1)).mergeSort leI)):=by
      refine zB2 ?_;rw[zlX,zlX,zbU,w6Q];have put:=ih _ (hf.put hw);have skip:=ih _ hf.up
      cases(mfind s.c[i].j (setM (s.E.map (·.h)) [])).getD false with
      |true=>exact skip
      |false =>
        cases(a.r==0&&s.c[i].y==a.y&&s.c[i].Q==a.a.b)with
        |true=>rw[zbj,zaO,zaO,zl0];exact put
        |false =>
          cases(mfind s.c[i].j (setM (markL m a.q) [])).getD false with
          |true=>rw[zbj,zaO,zay,zaO,zl0];exact put
          |false=>exact skip
     refine zw6 ?_
     simp_all
 |false =>
   rw[zay,<-fin (λx=>!(mfind x.j (setM (s.E.map (·.h)) [])).getD false&&(a.r==0&&x.y==a.y&&x.Q==a.a.b)) (λx=>by
    rw[zGB];unfold scopeB
    grind)]
   refine zbW s.c (λi r=>∀f:List (Int×Bool),SetOk f i->zhp s a (setM (s.E.map (·.h)) []) (mM f) i=some (zeW (((setM ((r.filter λx=>!(mfind x.j (setM (s.E.map (·.h)) [])).getD false&&(a.r==0&&x.y==a.y&&x.Q==a.a.b)).map (·.j)) f).map (·.1)).mergeSort leI))) ?_ ?_ [] ⟨zjh,by simp,by simp⟩
   .intro f hf;refine zuM ?_;simp(disch:=omega)only[zH];exact zJW hf (by omega)
   . intro i hi r _ ih f hf;have hw:=zGA (hs.2.1 _ (zau hi))
     have m12:zir s a (setM (s.E.map (·.h)) []) (mM f) i s.c[i] (a.r==0&&s.c[i].y==a.y&&s.c[i].Q==a.a.b)=some (zeW (((setM (((s.c[i]::r).filter λx=>!(mfind x.j (setM (s.E.map (·.h)) [])).getD false&&(a.r==0&&x.y==a.y&&x.Q==a.a.b)).map (·.j)) f).map (·.1)).mergeSort leI)):=by
      refine zzM ?_;rw[zlX,show([]:List (List AV))=mM []from rfl,zlX,zbU,w6Q];have put:=ih _ (hf.put hw);have skip:=ih _ hf.up
      cases(mfind s.c[i].j (setM (s.E.map (·.h)) [])).getD false with
      |true=>exact skip
      |false =>
        cases(a.r==0&&s.c[i].y==a.y&&s.c[i].Q==a.a.b)with
        |true=>rw[zbj,zaO,zaO,zl0];exact put
        |false=>exact skip
     refine zuM ?_;simp(disch:=omega)only[zF,zeC,zaa hi];revert m12
     cases a.r==0 with
     |false=>exact λh=>h
     |true =>
       cases s.c[i].y==a.y with
       |false=>exact λh=>h
       |true=>exact λh=>h
def c_add(M:aJ)(n t:Int):cw 54 [.map 1000,I n,I t] [(1000,gD (mK M))]=some (znx (addT n t M)):=by
 refine zzo ?_;rw[zwW,zMu];unfold addT
 cases mfind n M with
 |none=>rfl
 |some a=>simp only[zO,zdd,zbO,zfy];split<;>rfl
def openM(M:aJ):List zad:=((M.map (·.1)).mergeSort leI).mapIdx λi n=>openE i (n,(mfind n M).getD 0)
def zLV{M:aJ}(hn:(M.map (·.1)).Nodup)(hw:∀k∈M.map (·.1),W64 k)(hl:M.length<=1000):cw 57 [.mp (mK M)] []=some (zjd (openM M)):=by
 refine ztJ ?_;rw[c_keysL,zi8,zJo M (by omega) hw hn,zgs];unfold openM;have hkl:((M.map (·.1)).mergeSort leI).length<=1000:=by rw[List.length_mergeSort,zac];exact hl
 generalize (M.map (·.1)).mergeSort leI=ks at hkl;refine zbW ks (λi _=>zg8 M ks (mA ((ks.take i.toNat).mapIdx λi n=>openE i (n,(mfind n M).getD 0))) i=some (zjd (ks.mapIdx λi n=>openE i (n,(mfind n M).getD 0)))) ?_ ?_
 .refine zmL ?_;simp(disch:=omega)only[zR,zH,zaf,zcR];rw[zaz (by simp)];rfl
 . intro i hi r _ ih;refine zmL ?_;have hix:((i:Int)+1).toNat=i+1:=by omega
   rw[hix,zbP hi,List.mapIdx_concat]at ih;simp only[zbS]at ih;have hlen:(ks.take i).length=i:=by rw[zdc];omega
   rw[hlen]at ih;have hlm:(mA ((ks.take i).mapIdx λi n=>openE i (n,(mfind n M).getD 0))).length=i:=by simp;omega
   rw[zaf];generalize (ks.take i).mapIdx (λi n=>openE i (n,(mfind n M).getD 0))=out at ih hlm;rw[zac]at hlm;simp(disch:=omega)only[zI,zb6,zaa hi];rw[zwW];simp only[zbp];exact ih
def zNn{s:zam}(hs:zb2 s){f:aY}{M:aJ}(h:Times s f M):openM M=openS (schedL s f):=by
 unfold openM openS;rw[h.keys hs];apply zdb
 .simp
 . intro i h1 h2;have hi:i<(schedL s f).length:=by simpa using h2
   simp only[zjt,zg6];rw[h.find (zau hi)];rfl
def Times.w{s:zam}(hs:zb2 s){f:aY}{M:aJ}(h:Times s f M):∀k∈M.map (·.1),W64 k:=λk hk=>by obtain⟨x,hx,rfl⟩:=h.num k hk;exact zGA (hs.scripts.2.1 x hx)
def c_open{s:zam}(hs:zb2 s){f:aY}{M:aJ}(h:Times s f M):cw 57 [.mp (mK M)] []=some (zjd (openS (schedL s f))):=by rw[<-zNn hs h];exact zLV h.nd (h.w hs) (by have:=h.few hs;omega)
def c_Concat(a b:aA)(ha:a.length<=100000)(hb:b.length<=100000):cw 99 [.sl 1 (mX [a,b])] []=some (zdp (a++b)):=by
 refine zm7 ?_
 have h3:zdh [a,b] (mA (a++b)) 2=some (zdp (a++b)):=by refine zfW ?_;rw[zaH (by simp),zar rfl];rfl
 have h2:zdh [a,b] (mA a) 1=some (zdp (a++b)):=by refine zfW ?_;rw[zaB (by simp),cPQ,zl5,show([a,b]:List (List zad))[Int.toNat 1]?=some b from rfl,zae,zar rfl,zar (by simp;omega),zar rfl,<-zbS];exact h3
 have h1:zdh [a,b] (mA []) 0=some (zdp (a++b)):=by refine zfW ?_;rw[zaB (by simp),cPQ,zl5,show([a,b]:List (List zad))[Int.toNat 0]?=some a from rfl,zae,zar rfl,zar (by simp;omega),zar rfl,<-zbS];exact h2
 have g2:zdO [a,b] (a.length+b.length:Int) 2=some (zdp (a++b)):=by refine zfV ?_;rw[zaH (by simp),c_GrowE _ (by omega),zhS,zar rfl];exact h1
 have g1:zdO [a,b] (a.length:Int) 1=some (zdp (a++b)):=by refine zfV ?_;rw[zaB (by simp),cPQ,zl5,show([a,b]:List (List zad))[Int.toNat 1]?=some b from rfl,zae,zac,w6Q,zaH (by omega)];exact g2
 refine zfV ?_;rw[zaB (by simp),cPQ,zl5,show([a,b]:List (List zad))[Int.toNat 0]?=some a from rfl,zae,zac,w6Q,zaH (by omega),Int.zero_add];exact g1
def c_with(a b:aA)(ha:a.length<=100000)(hb:b.length<=100000):cw 56 [.sl 9 (mA a),.sl 9 (mA b)] []=some (zjd (a++b)):=by refine zKF ?_;rw[c_Concat a b ha hb,zhS,cPQ,zcR];rfl
def c_Until(l:aA)(t:Int)(hl:l.length<=100000)(hp:∀e∈l,e.A.length<=1000000):cw 60 [.sl 9 (mA l),I t] []=some (zdp (untilS l t)):=by
 refine zHB ?_;refine zbW l (λi r=>∀out:List zad,(out.length:Int)<=i->zkN l t (mA out) i=some (zdp (out++untilS r t))) ?_ ?_ [] (by simp)
 .intro out ho;refine zvJ ?_;rw[zac,zaH (by omega),zar rfl];unfold untilS;rw[zcX,zcu];rfl
 . intro i hi r _ ih out ho;refine zvJ ?_;rw[zac,zaB (by omega),cPQ,zaf,zcB,zaa hi,zae,c_clone _ (hp _ (zau hi)),ztn,w6Q,zfy];unfold untilS at ih ⊢;rw[zbU];by_cases h:l[i].a.n<=t
   . rw[if_pos h,if_pos (by simpa using h),zar rfl,zar (by grind),zar rfl];have:=ih (out++[l[i]]) (by simp;omega)
     simp_all
   grind
def deskE(s:zam)(i:Nat)(d:zaF)(e:zad):zaF:=
 if e.r=1 then(if e.q.toNat=i then reinS e.a d else d)
 else if e.r=0/\e.a.b.toNat=i then(match fitS s e with
  |some q=>(match seedS s e.h,s.u[q]? with
    |some sd,some p=>noteS s p sd e d
    |none,_=>{ d with marks:=d.marks++[⟨e,d.watch.p⟩] }
    |_,_=>d)
  |none=>d)
 else d
def reopE(R:Reop)(e:zad):Reop:=if e.r=2 then mput ⟨e.h,e.x⟩ e.a R else R
def evS_fst(s:zam)(st:Desks×Reop)(e:zad)(i:Nat):(evS s st e).1 i=(st.1 i).map (λd=>deskE s i d e):=by
 have idm:∀(f:zaF->zaF),(∀d,f d=d)->st.1 i=(st.1 i).map f:=λf h=>by
  cases st.1 i with
  |none=>rfl
  |some d=>simp[h d]
 by_cases k1:e.r=1
 . have hd:∀d,deskE s i d e=if e.q.toNat=i then reinS e.a d else d:=λd=>by unfold deskE;rw[if_pos k1]
   unfold evS;rw[if_pos k1];by_cases hi:e.q.toNat=i
   . simp only[hd,hi,if_true]
     cases h:st.1 i with
     |none=>simp[h]
     |some d=>simp[upd]
   . simp only[hd,hi,if_false]
     cases h:st.1 e.q.toNat with
     |none=>exact idm _ λd=>rfl
     |some d0=>simp only[upd];rw[if_neg (show¬i=e.q.toNat from λh=>hi h.symm)];exact idm _ λd=>rfl
 by_cases k0:e.r=0
 case neg =>
  have hd:∀d,deskE s i d e=d:=λd=>by unfold deskE;rw[if_neg k1,if_neg (λh=>k0 h.1)]
  have:(evS s st e).1=st.1:=by
   unfold evS;rw[if_neg k1];split
   .rfl
   .rfl
  rw[this];exact idm _ hd
 have k2:¬e.r=2:=by omega
 unfold evS;rw[if_neg k1,if_neg k2,if_pos k0];by_cases hi:e.a.b.toNat=i
 . have hd:∀d,deskE s i d e=(match fitS s e with
    |some q=>(match seedS s e.h,s.u[q]? with
      |some sd,some p=>noteS s p sd e d
      |none,_=>{ d with marks:=d.marks++[⟨e,d.watch.p⟩] }
      |_,_=>d)
    |none=>d):=λd=>by unfold deskE;rw[if_neg k1,if_pos ⟨k0,hi⟩]
   simp only[hd,hi]
   cases h:st.1 i with
   |none=>simp[h]
   |some d =>
     cases hf:fitS s e with
     |none=>simp[h]
     |some q =>
       cases hs:seedS s e.h with
       |none=>simp[upd]
       |some sd =>
         cases hp:s.u[q]? with
         |none=>simp[h,hp]
         |some p=>simp[upd,hp]
 . have hd:∀d,deskE s i d e=d:=λd=>by unfold deskE;rw[if_neg k1,if_neg (λh=>hi h.2)]
   rw[show(λd=>deskE s i d e)=id from funext hd,Option.map_id]
   cases h:st.1 e.a.b.toNat with
   |none=>rfl
   |some d0 =>
     cases hf:fitS s e with
     |none=>rfl
     |some q =>
       cases hs:seedS s e.h with
       |none=>simp only[upd];rw[if_neg (show¬i=e.a.b.toNat from λh=>hi h.symm)];rfl
       |some sd =>
         cases hp:s.u[q]? with
         |none=>simp only[hp];rfl
         |some p=>simp only[hp,upd];rw[if_neg (show¬i=e.a.b.toNat from λh=>hi h.symm)];rfl
def evS_snd(s:zam)(st:Desks×Reop)(e:zad):(evS s st e).2=reopE st.2 e:=by
 unfold reopE;by_cases k1:e.r=1
 .rw[iNQ];unfold evS;rw[if_pos k1];split<;>rfl
 by_cases k2:e.r=2
 .rw[if_pos k2];unfold evS;rw[if_neg k1,if_pos k2]
 rw[if_neg k2];unfold evS;rw[if_neg k1,if_neg k2];split
 . split
   .split<;>rfl
   .rfl
 .rfl
def zBe(s:zam):∀(ev:aA) (st:Desks×Reop) (i:Nat),(ev.foldl (evS s) st).1 i=(st.1 i).map (λd=>ev.foldl (deskE s i) d)
 |[],st,i=>by simp
 |e::r,st,i=>by rw[zcG,zBe s r (evS s st e) i,evS_fst,Option.map_map];rfl
def walk_snd(s:zam):∀(ev:aA) (st:Desks×Reop),(ev.foldl (evS s) st).2=ev.foldl reopE st.2
 |[],st=>rfl
 |e::r,st=>by rw[zcG,walk_snd s r (evS s st e),evS_snd];rfl
def walk_at(s:zam)(ev:aA)(i:Nat):(walkS s ev).1 i=(seats s.k i).map (λd=>ev.foldl (deskE s i) d):=zBe s ev _ i
def walk_reop(s:zam)(ev:aA):(walkS s ev).2=ev.foldl reopE []:=walk_snd s ev _
def zJp(l:aA):(canonS l).Pairwise (λa b=>lessS a.a b.a=true):=by
 have h1:=zCU l
 have h2:(canonS l).Pairwise (λa b=>idE a≠idE b):=by refine(List.Perm.pairwise_iff (λ{a b} h=>(Ne.symm h:_)) (zid l)).2 ?_;exact zGj l
 refine(h1.and h2).imp ?_;intro a b ⟨q1,q2⟩
 cases h:lessS a.a b.a with
 |true=>rfl
 |false=>exact absurd (by unfold idE;rw[zGo h q1]) q2
def lessS_tr{a b c:zbf}(h1:lessS a b=true)(h2:lessS b c=true):lessS a c=true:=by
 unfold lessS at *
 grind
def zsY(a:zbf):lessS a a=false:=by unfold lessS;simp
structure FairD(i:Nat)(pre:aA)(d:zaF):Prop where
 mrk:∀x∈d.marks,x.G∈pre
 sAt:∀y∈d.d,(∃e∈pre,y.At=e.a)/\(y.xk=true->∃e∈pre,y.xg=e.a)/\y.q=(i:Int)
 lift:d.watch.p=false->∀y∈d.d,y.xk=true
 lift2:d.watch.p=true->∀(k:Nat) (y:zcb),d.d[k]?=some y->(k+1≠d.d.length->y.xk=true)/\(k+1=d.d.length->y.xk=false)
 out:∀x∈d.marks,x.xf=false->∀y∈d.d,lessS x.G.a y.At=true\/(y.xk=true/\lessS x.G.a y.xg=false)
 bad:∀x∈d.marks,x.xf=false->∀y∈d.d,y.xh=false->lessS y.xd x.G.a=true->lessS y.At x.G.a=true
 per:∀(k:Nat) (x:zcq),d.marks[k]?=some x->(k:Int)<d.period->lessS d.l x.G.a=false
 st:d.period<=0\/∃e∈pre,d.l=e.a
 good:d.some=true->d.period<=0\/lessS d.l d.good=true
 pos:d.period<=(d.marks.length:Int)
def FairD.mono {i pre d} (h:FairD i pre d) (e:zad):FairD i (pre++[e]) d:=by
 have up:∀{f:zad},f∈pre->f∈pre++[e]:=λh=>zgO _ h
 refine⟨λx hx=>up (h.mrk x hx),λy hy=>?_,h.lift,h.lift2,h.out,h.bad,h.per,?_,h.good,h.pos⟩
 . obtain⟨⟨f,f1,f2⟩,g,m⟩:=h.sAt y hy
   grind
 . rcases h.st with q|⟨f,f1,f2⟩
   .exact .inl q
   grind
def FairD.rein {i pre d} (h:FairD i pre d) {e:zad} (hlt:∀f∈pre,lessS f.a e.a=true):FairD i (pre++[e]) (reinS e.a d):=by
 unfold reinS;split
 case isFalse=>exact h.mono e
 rename_i hs;have h':=h.mono e
 have mem:∀y'∈d.d.modify (d.d.length-1) (λx=>{ x with xk:=true,xg:=e.a }),∃y∈d.d,(y'={ y with xk:=true,xg:=e.a }/\y.xk=false)\/(y'=y/\y.xk=true):=by
  intro y' hy;obtain⟨k,hk⟩:=zce hy;rw[List.getElem?_modify]at hk
  cases hg:d.d[k]? with
  |none=>grind
  |some y =>
    rw[hg]at hk;have hlen:k<d.d.length:=(zao.1 hg).1;refine⟨y,zav hg,?_⟩;obtain⟨q1,q2⟩:=h.lift2 hs k y hg
    grind
 refine⟨h'.mrk,λy' hy=>?_,λ_ y' hy=>?_,λhh=>absurd hh (by simp),λx hx hv y' hy=>?_,λx hx hv y' hy hf hg=>?_,λk x hk _=>?_,.inr ⟨e,by simp,rfl⟩,λhh=>absurd hh (by simp),by simp⟩
 . obtain⟨y,y1,y2⟩:=mem y' hy;obtain⟨a1,a2,a3⟩:=h'.sAt y y1
   grind
 .grind
 . obtain⟨y,y1,y2⟩:=mem y' hy;rcases y2 with⟨rfl,q⟩|⟨rfl,_⟩
   . rcases h.out x hx hv y y1 with r|⟨r,_⟩
     .exact .inl r
     grind
   .exact h.out x hx hv _ y1
 . obtain⟨y,y1,y2⟩:=mem y' hy;rcases y2 with⟨rfl,_⟩|⟨rfl,_⟩
   .exact h.bad x hx hv y y1 hf hg
   .exact h.bad x hx hv _ y1 hf hg
 .exact zk5 (hlt _ (h.mrk x (zav hk)))
def FairD.app {i pre d} (h:FairD i pre d) {e:zad} (hlt:∀f∈pre,lessS f.a e.a=true):FairD i (pre++[e]) { d with marks:=d.marks++[⟨e,d.watch.p⟩] }:=by
 have h':=h.mono e;refine⟨λx hx=>?_,h'.sAt,h.lift,h.lift2,λx hx hv y hy=>?_,λx hx hv y hy hf hg=>?_,λk x hk hp=>?_,h'.st,h.good,?_⟩
 . rcases zbo.1 hx with hx|hx
   .exact h'.mrk x hx
   simp_all
 . rcases zbo.1 hx with hx|hx
   .exact h.out x hx hv y hy
   .rw[zcH.1 hx]at hv ⊢;have hl:=h.lift hv y hy;obtain⟨f,f1,f2⟩:=(h.sAt y hy).2.1 hl;exact .inr ⟨hl,by rw[f2];exact zk5 (hlt f f1)⟩
 . rcases zbo.1 hx with hx|hx
   .exact h.bad x hx hv y hy hf hg
   . rw[zcH.1 hx];obtain⟨f,f1,f2⟩:=(h.sAt y hy).1
     simp_all
 .have hp':(k:Int)<d.period:=hp;have:=h.pos;rw[zdP (by omega)]at hk;exact h.per k x hk hp'
 . have:=h.pos
   grind
def FairD.susp {i pre d} (h:FairD i pre d) {e:zad} (hlt:∀f∈pre,lessS f.a e.a=true) (hw:d.watch.p=false) {w:zck} (hn:w.p=true) (no:ae) {id:Int} (hid:id=(i:Int)):FairD i (pre++[e]) (suspS id e.a { d with R:=no,watch:=w }):=by
 have h':=h.mono e;subst hid;unfold suspS;simp only;generalize hg:(if d.some then d.good else d.l)=g
 have mem:∀(k:Nat) (x':zcq),(d.marks.mapIdx (voidIf d.period (!d.some) g))[k]?=some x'->∃x,d.marks[k]?=some x/\x'.G=x.G/\(x'.xf=false->x.xf=false/\¬(d.period<=k/\(!d.some||lessS g x.G.a)=true)):=by
  intro k x' hk;rw[zeH]at hk
  cases hm:d.marks[k]? with
  |none=>grind
  |some x =>
    rw[hm]at hk;injection hk with hk;refine⟨x,rfl,by rw[<-hk,zqc],λhv=>?_⟩;rw[<-hk]at hv;unfold voidIf at hv
    grind
 have mem':∀x'∈d.marks.mapIdx (voidIf d.period (!d.some) g),∃(k:Nat) (x:zcq),d.marks[k]?=some x/\x'.G=x.G/\(x'.xf=false->x.xf=false/\¬(d.period<=k/\(!d.some||lessS g x.G.a)=true)):=λx' hx=>by
  obtain⟨k,hk⟩:=zce hx
  grind
 refine⟨λx' hx=>?_,λy hy=>?_,λhh=>?_,λ_ k y hk=>?_,λx' hx hv y hy=>?_,λx' hx hv y hy hf hgd=>?_,λk x' hk hp=>?_,h'.st,h.good,?_⟩
 .obtain⟨k,x,q1,q2,_⟩:=mem' x' hx;rw[q2];exact h'.mrk x (zav q1)
 . rcases zbo.1 hy with hy|hy
   .exact h'.sAt y hy
   simp_all
 .grind
 . rw[zby,ziJ];by_cases hk':k<d.d.length
   .rw[zdP hk']at hk;exact⟨λ_=>h.lift hw y (zav hk),λq=>absurd q (by omega)⟩
   grind
 . obtain⟨k,x,q1,q2,q3⟩:=mem' x' hx;have hx0:=zav q1;rw[q2];rcases zbo.1 hy with hy|hy
   .exact h.out x hx0 (q3 hv).1 y hy
   .rw[zcH.1 hy];exact .inl (hlt _ (h.mrk x hx0))
 . obtain⟨k,x,q1,q2,q3⟩:=mem' x' hx;have hx0:=zav q1;rw[q2]at hgd ⊢;rcases zbo.1 hy with hy|hy
   .exact h.bad x hx0 (q3 hv).1 y hy hf hgd
   . rw[zcH.1 hy]at hf hgd;simp only at hf hgd;exfalso;have hs:d.some=true:=by simpa using hf
     have hk:¬d.period<=(k:Int):=λhk=>(q3 hv).2 ⟨hk,by simp_all⟩
     have hp:=h.per k x q1 (by omega);rw[hs,if_pos rfl]at hg;rw[<-hg]at hgd;rcases h.good hs with r|r
     .omega
     .rw[lessS_tr r hgd]at hp;cases hp
 .obtain⟨x,q1,q2,_⟩:=mem k x' hk;rw[q2];exact h.per k x q1 hp
 .have:=h.pos;simpa using this
def FairD.note {i pre d} (h:FairD i pre d) {e:zad} (hlt:∀f∈pre,lessS f.a e.a=true) (s:zam) (p:zaQ) (sd:GSeed) (hid:e.a.b=(i:Int)):FairD i (pre++[e]) (noteS s p sd e d):=by
 have h':=h.mono e;unfold noteS;split
 .exact h'
 . simp only;split
   .exact⟨h'.mrk,h'.sAt,h'.lift,h'.lift2,h'.out,h'.bad,h'.per,h'.st,h'.good,h'.pos⟩
   . split
     .exact⟨h'.mrk,h'.sAt,h'.lift,h'.lift2,h'.out,h'.bad,h'.per,h'.st,h'.good,h'.pos⟩
     . rename_i hw;have hw:d.watch.p=false:=by simpa using hw
       split
       .rename_i hn;exact h.susp hlt hw hn _ hid
       . rename_i hn;split
         . refine⟨h'.mrk,h'.sAt,λ_=>h'.lift hw,λq=>absurd q hn,h'.out,h'.bad,h'.per,h'.st,λ_=>?_,h'.pos⟩;rcases h.st with q|⟨f,f1,f2⟩
           .exact .inl q
           simp_all
         .exact⟨h'.mrk,h'.sAt,λ_=>h'.lift hw,λq=>absurd q hn,h'.out,h'.bad,h'.per,h'.st,h'.good,h'.pos⟩
def zEO{l:aA}:∀e∈canonS l,eventB e=true:=λ_ he=>(zJq.1 he).2.1
def given_of{s:zam}{l:aA}{g:za6}(h:g∈(foldS s l).M):∃(i:Nat) (d:zaF) (x:zcq),i<100/\(walkS s (canonS l)).1 i=some d/\x∈d.marks/\x.xf=false/\g=zdQ i d x.G/\x.G∈canonS l/\markEv s i x.G=true:=by
 rw[zzu]at h;simp only at h;obtain⟨i,hi,d,hd,p,hp,rfl⟩:=zq9.1 ((zg7 (lt:=zci) _).mem_iff.1 h);obtain⟨x,x1,x2,x3,_⟩:=countS_mem hp;have hm:=zv8 hd;have:x.G∈(canonS l).filter (markEv s i):=by rw[<-hm];exact zbA.2 ⟨x,x1,rfl⟩
 grind
def zLY(i:Nat)(d:zaF)(R:Reop):((countS d R).map λp=>zdQ i d p.2).Nodup:=by
 obtain⟨k1,k2⟩:=zwF d R;generalize countS d R=m at k1 k2;unfold List.Nodup at k1 ⊢;rw[zdW]at k1 ⊢;refine zhd ?_ k1;intro p q hp hq hne he;unfold zdQ at he
 grind
def zBr(ds:Desks)(R:Reop):∀n,(zec ds R n).Nodup
 |0=>by simp[zec]
 |n+1=>by
   rw[zpT];refine zkx.2 ⟨zBr ds R n,?_,?_⟩
   . cases ds n with
     |none=>exact zjh
     |some d=>exact zLY n d R
   . intro a ha b hb hab;subst hab;obtain⟨i,hi,d,_,p,_,rfl⟩:=zq9.1 ha
     cases hd:ds n with
     |none=>grind
     |some f =>
       rw[hd]at hb;obtain⟨q,_,hq⟩:=zbA.1 hb;unfold zdQ at hq
       grind
def given_asc(s:zam)(l:aA):(foldS s l).M.Pairwise (λa b=>zci a b=true):=by
 rw[zzu];simp only;generalize hL:zec (walkS s (canonS l)).1 (walkS s (canonS l)).2 100=L;have hp:=zg7 (lt:=zci) L;have h1:=zpV (lt:=zci) (λ_ _ _ h1 h2=>ztY h1 h2) (λ_ _ h=>zrt h) L;have h2:(isort zci L).Nodup:=hp.nodup_iff.2 (by rw[<-hL];exact zBr _ _ _);refine(h1.and h2).imp_of_mem ?_;intro a b ha hb ⟨q1,q2⟩
 cases h:zci a b with
 |true=>rfl
 |false=>have q:=zAK h q1;rw[hp.mem_iff,<-hL]at ha hb;exact absurd (zJy ha hb q.1 q.2.1 q.2.2) q2
def zGf{l:aN}{n:Int}{x:zaY}:eligB l n x=true↔Elig l n x:=by
 unfold eligB Elig FitsM
 cases h:zg4 l n with
 |none=>simp
 |some q =>
   obtain⟨k,m⟩:=q;simp only[zJ,mayB,zaS,zfn,bne_iff_ne]
   grind
def few1000{l:aA}(h:l.length<1000)(hp:∀e∈l,e.A.length<=1000000):FewEv l:=
 ⟨by omega,by
  have h1:=zHV l;have h2:(keepS l).length<=(zdu l).length:=zdB _ _
  omega,hp⟩
def zqp{s:zam}(hs:zb2 s){l:aA}{g:za6}(h:g∈(foldS s l).M):zk8 s g/\g.s<=40:=by
 obtain⟨i,d,x,_,hd,hx,_,rfl,_⟩:=given_of h;have hm:x.G∈d.marks.map (·.G):=zez hx;rw[zv8 hd]at hm;have hk:=(zcf.1 hm).2;unfold markEv at hk;simp only[zY]at hk;obtain⟨⟨⟨hk,_⟩,hf⟩,_⟩:=hk;obtain⟨q,hq⟩:=zaN.1 hf;obtain⟨x',p,y,h1,h2,h3,h4,h5,h6,h7,h8⟩:=zr7 hq;have hy:=((hs.okPaper (zfb h3).1).2.2.2.1 y (zav h5)).1
 have hv:-1<=x.G.s/\x.G.s<=y.xb:=by
  unfold permB at h7;rw[if_neg (show¬y.r=2 by omega)]at h7;split at h7
  .omega
  .grind
 exact⟨⟨x.G,⟨x',h1,hk,zGf.1 h2,q,p,y,h3,h4,h5,h6,hv,h8⟩,rfl,rfl,rfl⟩,by show x.G.s<=40;omega⟩
def ztW(s:zam){l:aA}(h:FewEv l):(foldS s l).M.length<=1000:=by rw[zzu];have h1:=zyI s (canonS l) (walkS s (canonS l)).2 100;have h2:=(zid l).length_eq;have h3:=h.2.1;have h4:=(zg7 (lt:=zci) (zec (walkS s (canonS l)).1 (walkS s (canonS l)).2 100)).length_eq;simp only;omega
def zqq{s:zam}(hs:zb2 s){l:aA}(h:FewEv l):SmallM (foldS s l):=
 ⟨by have:=ztW s h;omega,λg hg=>by have:=(zqp hs hg).2;omega⟩
def zMm{s:zam}{g:za6}(h:zk8 s g):∃x∈s.c,x.j=g.h:=by
 obtain⟨e,⟨x,h1,_⟩,h2,_⟩:=h;obtain⟨h3,h4⟩:=zrc h1
 grind
def sumT_bd:∀(ps:List GPart) (ws vs:aC),(∀(j:Nat) (y:GPart) (w v:Int),ps[j]?=some y->ws[j]?=some w->vs[j]?=some v->0<=termT y w v/\termT y w v<=40)->0<=sumT ps ws vs/\sumT ps ws vs<=40*ps.length
 |[],_,_,_=>by simp[sumT]
 |y::ps,[],_,_=>by simp[sumT];omega
 |y::ps,w::ws,[],_=>by simp[sumT];omega
 |y::ps,w::ws,v::vs,h=>by have h1:=h 0 y w v rfl rfl rfl;have h2:=sumT_bd ps ws vs (λj y w v a b c=>h (j+1) y w v a b c);rw[sumT,zcA];omega
def zDW{q:zbg}(hq:chkR q=0){s:zam}(hs:zb2 s)(m:zaJ)(hg:∀g∈m.M,zk8 s g){x:zaY}(hx:x∈s.c):(totR q s m x.j).2.2=0/\0<=(totR q s m x.j).2.1/\(totR q s m x.j).2.1<=960:=by
 unfold totR;rw[if_pos hq,zp3 hs.scripts.2.2 hx];dsimp only;split
 case isFalse=>simp
 obtain⟨k,p,c,hk,hc,_⟩:=hs.script x hx;rw[hk];dsimp only;rw[hc,zbO];have hok:=hs.schemes k p c (zfb hk).1 hc;have hpl:=hok.1.2.2.1
 have:=sumT_bd p.g c.v ((verdS q s m x).map (·.s)) (λj y w v h1 h2 h3=>by
  have hj:=(zao.1 h1).1;have hyo:=hok.1.2.2.2.1 y (zav h1);have hmx:=hyo.1;have hw:=(hok.2.2.2 j y (c.U[j]'(by have:=hok.2.1;omega)) w h1 (zaa _) h2).2;unfold termT;split
  .omega
  . split
    .omega
    . have:=zAN q s hs m hg x hx k p c hk hc j y w v h1 h2 h3 (by omega);unfold PermP at this
      grind)
 omega
def c_movedBy{q:zbg}(hq:chkR q=0){s:zam}(hs:zb2 s)(b n:zaJ)(hb:SmallM b)(hn:SmallM n)(gb:∀g∈b.M,zk8 s g)(gn:∀g∈n.M,zk8 s g){x:zaY}(hx:x∈s.c):cw 61 [.agg (zbt q),.agg (zap s),.agg (zaT b),.agg (zaT n),I x.j] []=some (zjJ (movedS q s b n x.j,0)):=by
 refine zFW ?_;rw[c_TotalG q s hs b hb gb,zm8,c_TotalG q s hs n hn gn,zm8];obtain⟨b1,b2,b3⟩:=zDW hq hs b gb hx;obtain⟨n1,n2,n3⟩:=zDW hq hs n gn hx;unfold movedS;generalize totR q s b x.j=tb at b1 b2 b3;generalize totR q s n x.j=tn at n1 n2 n3;obtain⟨x1,x2,x3⟩:=tb;obtain⟨y1,y2,y3⟩:=tn;simp only at b1 b2 b3 n1 n2 n3;subst b1 n1;simp only[zG];by_cases h1:x1=3
 . by_cases h2:y1=3
   .simp only[zG,h1,h2,and_self,if_true];rw[w6Q,w6Q];rfl
   .have e:(if x1=3/\y1=3 then distI y2 x2 else 0)=0:=if_neg (λh=>h2 h.2);rw[e];simp only[zG,h1,show(y1 !=3)=true by simpa using h2,zaO];rfl
 .have e:(if x1=3/\y1=3 then distI y2 x2 else 0)=0:=if_neg (λh=>h1 h.1);rw[e];simp only[show(x1 !=3)=true by simpa using h1,zaO];rfl
def znM(s:zam)(f:aY):(schedL s f).length<=s.c.length:=zdB _ _
def zt3(l:aJ):(openS l).length=l.length:=by simp[openS]
def zIa{l:aJ}{e:zad}(h:e∈openS l):e.A=[]:=by unfold openS at h;obtain⟨i,hi,rfl⟩:=List.mem_mapIdx.1 h;rfl
def zwS{s:zam}{ev:aA}{l:aD}(h:OkApp s ev l)(f:aY):FewEv (ev++openS (schedL s f)):=by
 obtain⟨h1,h2,h3,_⟩:=h;have h4:=znM s f;have h5:=h1.scripts.1;refine few1000 (by rw[zby,zt3];omega) (λe he=>?_);rcases zbo.1 he with he|he
 .exact h3 e he
 .rw[zIa he];simp
def zDg{s:zam}{ev:aA}{l:aD}(h:OkApp s ev l)(t:Int):FewEv (untilS ev t):=by obtain⟨h1,h2,h3,_⟩:=h;have h4:(untilS ev t).length<=ev.length:=zcv _ _;exact few1000 (by omega) (λe he=>h3 e (zcf.1 he).1)
def few_ev{s:zam}{ev:aA}{l:aD}(h:OkApp s ev l):FewEv ev:=by obtain⟨h1,h2,h3,_⟩:=h;exact few1000 (by omega) h3
def zwv(l:aD):(appS l).1.length<=24:=by
 unfold appS;split
 .simp
 .rw[(zg7 _).length_eq];omega
def filter_asc{c:aD}(h:AscT c)(p:zan->Bool):AscT (c.filter p):=h.filter _
def zJk{r:zaP}{q:zbg}{s:zam}{ev:aA}{l:aD}(h:OkApp s ev l):cw 17 [.agg (zaK r),.agg (zbt q),.agg (zap s),.sl 9 (mA ev),.sl 6 (mB l)] []=some (zcW (zd2 r q s ev l)):=by
 have hs:=h.1;have h60:=hs.scripts.1;refine zFV ?_;unfold zd2;rw[zAj,za7,ztm,za7];by_cases hA:chkA r=0
 case neg=>rw[if_neg (λq=>hA q.1),show(chkA r !=0)=true by simpa using hA];rfl
 by_cases hR:chkR q=0
 case neg=>rw[if_neg (λq=>hR q.2),hA,show(chkR q !=0)=true by simpa using hR];rfl
 rw[if_pos ⟨hA,hR⟩,hA,hR,zo9 hs,za7,zxC h.2.2.2,zfZ];simp only[zG];by_cases hE:(appS l).2=0
 case neg=>rw[if_neg hE,show((appS l).2 !=0)=true by simpa using hE];rfl
 rw[if_pos hE,hE];simp only[zG];have hc24:=zwv l;have hasc:=zFJ l;generalize appS l=ap at hE hc24 hasc;obtain⟨c,e0⟩:=ap;simp only at hE hc24 hasc ⊢;have hT:Times s (timeS s ⟨[],[]⟩ (c.filter λa=>a.r==0)) (schedM s ⟨[],[]⟩ (c.filter λa=>a.r==0) []):=zFd hs _ (filter_asc hasc _)
 have tail:∀(M:aJ),M=schedM s ⟨[],[]⟩ (c.filter λa=>a.r==0) []->ziq r q s ev (c,e0) (mK M) (c.length:Int)=some (zcW (ze8 r q s ev c,0)):=by
  intro M hM;subst hM;refine zuJ ?_;rw[zac,zaH (by simp),c_open hs hT,zi5,c_with ev _ (by have:=h.2.1;omega) (by rw[zt3];have:=znM s (timeS s ⟨[],[]⟩ (c.filter λa=>a.r==0));omega),zi5,zFL hs (zwS h _),zhm];simp only[zG];rw[c_keysL,zi8,zJo _ (by have:=hT.few hs;omega) (hT.w hs) hT.nd,zgs,hT.keys hs];have hfind:=λp hp=>hT.find (p:=p) hp
  have hin:∀p∈zgC s c,∃x∈s.c,x.j=p.1:=λp hp=>by obtain⟨x,hx,_,e⟩:=zuE.1 hp;exact⟨x,hx,e⟩
  have hlen:(zgC s c).length<=60:=by have:=znM s (timeS s ⟨[],[]⟩ (c.filter λa=>a.r==0));unfold zgC;omega
  have hnow:=zwS h (timeS s ⟨[],[]⟩ (c.filter λa=>a.r==0));unfold ze8;generalize schedM s ⟨[],[]⟩ (c.filter λa=>a.r==0) []=M at hfind;change(∀p∈zgC s c,mfind p.1 M=some p.2)at hfind;change zfg r q s ev (mK M) (foldS s (ev++openS (zgC s c)),0) ((zgC s c).map (·.1)) [] [] 0=_;change FewEv (ev++openS (zgC s c))at hnow;have gnow:∀g∈(foldS s (ev++openS (zgC s c))).M,zk8 s g:=λg hg=>(zqp hs hg).1
  have snow:=zqq hs hnow;generalize foldS s (ev++openS (zgC s c))=now at gnow snow;generalize zgC s c=L at hfind hin hlen;refine zbW L (λi rest=>∀(out:aC) (bm:List (Int×zaJ)),(out.length:Int)<=i->(∀t g,mfind t bm=some g->g=foldS s (untilS ev t))->zfg r q s ev (mK M) (now,0) (L.map (·.1)) (List.map zah out) (sA bm) i=some (zcW (out++(rest.filter λp=>decide (r.K<movedS q s (foldS s (untilS ev p.2)) now p.1)).map (·.1),0))) ?_ ?_ [] [] (by simp) (λt g hh=>by simp[mfind]at hh)
  .intro out bm ho hb;refine zuL ?_;rw[zac,zac,zaH (by omega),cPQ,zcR];simp only[zcX,zdH,zcu];rfl
  . intro i hi rest _ ih out bm ho hb;have hmem:=zau hi;have hf:=hfind _ hmem;obtain⟨x,hx,hxn⟩:=hin _ hmem;refine zuL ?_;rw[zac,zac,zaB (by omega),cPQ,zaf,zb6,zbx,zaa hi,zbk,zae,zwW,hf,zbO,zod];rw[zbU];generalize L[i]=p at hf hxn hmem ⊢;have sb:=zqq hs (zDg h p.2);have gb:∀g∈(foldS s (untilS ev p.2)).M,zk8 s g:=λg hg=>(zqp hs hg).1
    have mv:=c_movedBy hR hs (foldS s (untilS ev p.2)) now sb snow gb gnow hx;rw[hxn]at mv
    have step:∀bm':List (Int×zaJ),(∀t g,mfind t bm'=some g->g=foldS s (untilS ev t))->brn (decide (r.K<movedS q s (foldS s (untilS ev p.2)) now p.1))
      (zfg r q s ev (mK M) (now,0) (L.map (·.1)) (List.map zah out++[zah p.1]) (sA bm') (i+1))
      (zfg r q s ev (mK M) (now,0) (L.map (·.1)) (List.map zah out) (sA bm') (i+1)) =
      some (zcW (out++(if decide (r.K<movedS q s (foldS s (untilS ev p.2)) now p.1)=true then p::(rest.filter λp=>decide (r.K<movedS q s (foldS s (untilS ev p.2)) now p.1))else rest.filter λp=>decide (r.K<movedS q s (foldS s (untilS ev p.2)) now p.1)).map (·.1),0)):=by
     intro bm' hb'
     cases decide (r.K<movedS q s (foldS s (untilS ev p.2)) now p.1)with
     |true=>rw[zaO,if_pos rfl];simp only[zdL zah];rw[ih (out++[p.1]) bm' (by simp;omega) hb',zcp];rfl
     |false =>
       rw[zay,iNs]
       grind
    cases hbm:mfind p.2 bm with
    |none =>
      simp only[zW,zeJ];rw[c_Until ev p.2 (by have:=h.2.1;omega) h.2.2.1,zhS,c_fold hs (zDg h p.2),zCS];simp only[zG];rw[zA7];refine zzL ?_;rw[zod,zdA,zbO,mv,zkS];simp only[zG];rw[zbp,zar (by simp;omega),zbp,w6Q];refine step _ (λt g hg=>?_);rw[zvW]at hg
      grind
    |some g=>have hge:=hb _ _ hbm;simp only[zO,zdd];refine zxp ?_;rw[zod,hbm,zbO,hge,mv,zkS];simp only[zG];rw[zbp,zar (by simp;omega),zbp,w6Q];exact step bm hb
 refine zbW c (λi rest=>∀M:List (Int×Int),schedM s ⟨[],[]⟩ (rest.filter λa=>a.r==0) M=schedM s ⟨[],[]⟩ (c.filter λa=>a.r==0) []->ziq r q s ev (c,e0) (mK M) i=some (zcW (ze8 r q s ev c,0))) ?_ ?_ [] rfl
 .intro M hM;exact tail M hM
 . intro i hi rest _ ih M hM;refine zuJ ?_;rw[zac,zaB (show(i:Int)<(c.length:Int)by omega),cPQ,zaf,zdY,zaa hi,zae,w6Q];rw[zbU]at hM;generalize c[i]=a at hM ⊢;by_cases hk:a.r=0
   case neg =>
    rw[show(a.r !=0)=true by simpa using hk,zaO]
    simp_all
   rw[show(a.r !=0)=false by simpa using hk,zay,zzh hs.scripts (by have:=hs.seeds;omega) ⟨[],[]⟩ (by simp) a,zgs];rw[if_pos (by simpa using hk)]at hM;change schedM s ⟨[],[]⟩ (rest.filter λa=>a.r==0) (addL (scopeL s ⟨[],[]⟩ a) a.a.n M)=_ at hM
   have hsl:(scopeL s ⟨[],[]⟩ a).length<=60:=by unfold scopeL;rw[zac];have:=zcv (scopeB s ⟨[],[]⟩ a) s.c;omega
   generalize scopeL s ⟨[],[]⟩ a=sc at hM hsl;refine zbW sc (λj rs=>∀M:List (Int×Int),schedM s ⟨[],[]⟩ (rest.filter λa=>a.r==0) (addL rs a.a.n M)=schedM s ⟨[],[]⟩ (c.filter λa=>a.r==0) []->zmh r q s ev (c,e0) i a sc (mK M) j=some (zcW (ze8 r q s ev c,0))) ?_ ?_ M hM
   .intro M hM;refine zuK ?_;rw[zac,zaH (by omega),w6Q];exact ih M hM
   .intro j hj rs _ ihj M hM;refine zuK ?_;rw[zac,zaB (by omega),cPQ,zaf,zb6,zaa hj,zae,c_add,zkT,w6Q];exact ihj _ hM
def c_blamed(r:zaP){s:zam}(hs:zb2 s)(m:zaJ)(hm:m.M.length<=1000000)(ch:aC)(hn:ch.Nodup)(hc:ch.length<=1000):cw 62 [.agg (zaK r),.agg (zap s),.agg (zaT m),.sl 1 (List.map zah ch)] []=some (zeD (zgP r s m ch)):=by
 have h16:=hs.markers.1;refine zHw ?_;refine zbW s.k (λi rest=>∀out:List Int,(out.length:Int)<=i->zi7 r s m ch (List.map zah out) i=some (zeD (out++(rest.filter λx=>x.I==1&&decide (r.S<=(ch.filter (marksB m x.ID)).length)).map (·.ID)))) ?_ ?_ [] (by simp)
 .intro out ho;refine zvG ?_;rw[zac,zaH (by omega),zar rfl,zcX];simp only[zdH];rw[zcu];rfl
 . intro i hi rest _ ih out ho;refine zvG ?_;rw[zac,zaB (by omega),cPQ,zaf,ze0,zaa hi,zae,w6Q,zbU];generalize s.k[i]=x;by_cases hl:x.I=1
   case neg =>
    rw[show(x.I !=1)=true by simpa using hl,zaO,show(x.I==1)=false by simpa using hl,zcU,iNs]
    grind
   rw[show(x.I !=1)=false by simpa using hl,zay,show(x.I==1)=true by simpa using hl,zcy,zAm m _ hm,zj4];refine zbW ch (λj rs=>∀f:List (Int×Bool),setM (rs.filter (marksB m x.ID)) f=setM (ch.filter (marksB m x.ID)) []->zkM r s m ch (List.map zah out) i x (setM (markL m x.ID) []) (mM f) j=some (zeD (out++(if decide (r.S<=(ch.filter (marksB m x.ID)).length)=true then x::(rest.filter λx=>x.I==1&&decide (r.S<=(ch.filter (marksB m x.ID)).length))else rest.filter λx=>x.I==1&&decide (r.S<=(ch.filter (marksB m x.ID)).length)).map (·.ID)))) ?_ ?_ [] rfl
   . intro f hf
     have hfl:f.length=(ch.filter (marksB m x.ID)).length:=by change f=_ at hf;rw[hf,zA5 _ _ (hn.filter _) (λ_ _=>rfl)];simp
     refine zvH ?_;rw[zac,zaH (by omega),zac,hfl,w6Q]
     cases decide (r.S<=((ch.filter (marksB m x.ID)).length:Int))with
     |true=>rw[zaO,zar rfl,zar (by simp;omega),zar rfl,if_pos rfl];have q:=ih (out++[x.ID]) (by simp;omega);rw[zcp]at q;simp only[zbS]at q;exact q
     |false =>
       rw[zay,iNs]
       grind
   . intro j hj rs _ ihj f hf;refine zvH ?_;rw[zac,zaB (by omega),cPQ,zaf,zb6,zaa hj,zae,zlX,zGr,w6Q];rw[zbU]at hf
     cases hb:marksB m x.ID ch[j]with
     |true=>rw[zaO,zl0];rw[if_pos hb]at hf;exact ihj _ hf
     |false=>simp_all
def zMZ{r:zaP}{q:zbg}{s:zam}(hs:zb2 s)(ev:aA)(c:aD):(ze8 r q s ev c).Pairwise (·< ·):=by
 unfold ze8;have h:=zDy hs (timeS s ⟨[],[]⟩ (c.filter λa=>a.r==0));change((zgC s c).map (·.1)).Pairwise (·< ·)at h
 grind
def zM0{r:zaP}{q:zbg}{s:zam}(hs:zb2 s)(ev:aA)(c:aD):(ze8 r q s ev c).length<=60:=by unfold ze8;rw[zac];have h1:=zcv (λp:Int×Int=>decide (r.K<movedS q s (foldS s (untilS ev p.2)) (foldS s (ev++openS (zgC s c))) p.1)) (zgC s c);have h2:=znM s (timeS s ⟨[],[]⟩ (c.filter λa=>a.r==0));have h3:=hs.scripts.1;unfold zgC at h1 ⊢;omega
def c_Blamed{r:zaP}{s:zam}{ev:aA}{l:aD}(h:OkApp s ev l)(ch:aC)(hn:ch.Nodup)(hc:ch.length<=1000):cw 18 [.agg (zaK r),.agg (zap s),.sl 9 (mA ev),.sl 1 (List.map zah ch)] []=some (zcW (if chkA r=0 then(zgP r s (foldS s ev) ch,0)else([],1))):=by
 have hs:=h.1;refine zHu ?_;rw[zAj,za7];by_cases hA:chkA r=0
 case neg=>rw[if_neg hA,show(chkA r !=0)=true by simpa using hA];rfl
 rw[if_pos hA,hA,zo9 hs,za7,zFL hs (few_ev h),zhm];simp only[zG];rw[c_blamed r hs _ (zqq hs (few_ev h)).1 ch hn hc,zgU,cPQ,zcR];rfl
def zu8(r:zbK)(h:OkMon r):cw 107 [.agg (zca r)] []=some (zbv 0):=by obtain⟨h1,h2,h3,h4⟩:=h;refine zKM ?_;simp(disch:=omega) [zaH];rfl
def zl4(s:zam)(n:Int)(h1:s.c.length<=1000000)(h2:s.u.length<=1000000):cw 111 [.agg (zap s),I n] []=some (zje (ixR (zfA s n))):=by
 refine zHH ?_;rw[ztE _ n h1,zin];unfold zfA
 cases zf4 s.c n with
 |none=>rfl
 |some x=>simp only[zO,scR,zu7 _ x h2,zgf,zae];rfl
def zu9(l:aP)(hl:l.length<=1000000):cw 220 [.sl 1 (List.map nBool l)] []=some (zbv (failsN l)):=by
 refine zKO ?_;have loop:=zbW l (λi r=>∀x:Int,0<=x->x<=i->zmq l x i=some (zbv (x+failsN r))) ?_ ?_ 0 (by omega) (by omega)
 .grind
 .intro x _ _;refine zxY ?_;simp(disch:=omega)only[zH];simp only[failsN,zcX,zcN,zkQ,zfx];rfl
 . intro i hi r hr ih x h0 h1;refine zxY ?_;simp(disch:=omega)only[zF,zqk,zaa hi]
   cases hb:l[i]with
   |true=>simp(disch:=omega)only[zO,w64_id];rw[ih x h0 (by omega),show failsN (true::r)=failsN r by simp[failsN]]
   |false=>simp(disch:=omega)only[zW,w64_id];rw[ih (x+1) (by omega) (by omega),show failsN (false::r)=1+failsN r by simp[failsN];omega,Int.add_assoc]
def zKz(r:zbK)(w:zck)(hr:OkMon r):cw 219 [.agg (zca r),.agg (zdR w)] []=some (zat (dec (zoI r w))):=by
 have hw:=hr.2.2.1;refine zKN ?_;simp only[zZ,zu8 r hr,za7,zac];by_cases h:(w.J.length:Int)<=r.Z
 .simp(disch:=omega)only[zaB,zu9,za7];rw[show(w.p==decide (r.S<=failsN w.J))=dec (zoI r w)from zf1 (by simp only[beq_iff_eq,zoI];simp_all)];rfl
 .simp(disch:=omega)only[zaH];rw[zbJ (λh2=>h h2.1)];rfl
def zLT(r:zbK)(w:zck)(b:Bool)(hr:OkMon r)(hw:zoI r w)(hs:w.p=false):cw 160 [.agg (zca r),.agg (zdR w),B b] []=some (zp2 (stepW r w b,0)):=by
 have h1:=hr.2.2.1;have h2:=hw.1;refine zMb ?_;have hsnoc:List.map nBool w.J++[[B b]]=List.map nBool (w.J++[b]):=by simp[nBool]
 have hsnoc2:List.map nBool w.J++[nBool b]=List.map nBool (w.J++[b]):=by simp
 have hsnoc3:List.map nBool w.J++[[B b]]=List.map nBool (w.J++[b]):=by simp[nBool]
 have hlen:(w.J++[b]).length=w.J.length+1:=by simp
 simp(disch:=omega)only[zO,zK,zKz r w hr,zas,zbq hw,hs,hsnoc];by_cases hb:r.Z<((w.J++[b]).length:Nat)
 . simp(disch:=omega)only[zaB,zar,zbp,zaW];refine zEB ?_
   have hdrop:List.take ((w.J++[b]).length-Int.toNat 1) (List.drop (0+Int.toNat 1) (List.map nBool (w.J++[b])))=List.map nBool (lastW r w b):=by rw[show 0+Int.toNat 1=1 from rfl,<-zhY,zaz (by simp)];unfold lastW;rw[if_pos hb]
   have hll:(lastW r w b).length<=1000000:=by unfold lastW;rw[if_pos hb];simp;omega
   simp(disch:=omega)only[hsnoc,hsnoc2,hsnoc3,zac,hdrop,zar,zu9 _ hll,za7];rfl
 . simp(disch:=omega)only[zaH];refine zB5 ?_
   have hdrop:List.take (w.J++[b]).length (List.map nBool (w.J++[b]))=List.map nBool (lastW r w b):=by rw[zaz (by simp)];unfold lastW;rw[if_neg hb]
   have hll:(lastW r w b).length<=1000000:=by unfold lastW;rw[if_neg hb];simp;omega
   simp(disch:=omega)only[hsnoc,hsnoc2,hsnoc3,zac,hdrop,zar,zu9 _ hll,za7];rfl
def sizeI(n:Int):Int:=if n<0 then 0-n else n
def zCN(n:Int)(h:-1000000<=n/\n<=1000000):cw 256 [I n] []=some (zbv (sizeI n)):=by refine zMc ?_;rw[w6Q,zfy];unfold sizeI;split<;>rfl
def zJV(a b:Int):sizeI (a-b)=distI a b:=by unfold sizeI distI;omega
def zLS(r:zbK)(a b:aC)(hr:OkMon r):cw 218 [.agg (zca r),.sl 1 (List.map zah a),.sl 1 (List.map zah b)] []=some (zat (goodS r a b)):=by
 refine zMa ?_;simp only[zG,zu8 r hr,za7,zac];unfold goodS;by_cases h1:a.length=b.length
 case neg=>rw[show((a.length:Int) !=(b.length:Int))=true by grind,zaO,show(a.length==b.length)=false by simpa using h1];rfl
 rw[show((a.length:Int) !=(b.length:Int))=false by simp[h1],zay,show(a.length==b.length)=true by simpa using h1,zcy];by_cases h2:a.length<=24
 case neg =>
  rw[zaB (by omega)];have:greatB a=true:=by unfold greatB;rw[decide_eq_true (by omega)];rfl
  rw[this];rfl
 rw[zaH (by omega)];have hga:greatB a=a.any λm=>decide (200<m):=by unfold greatB;grind
 have hgb:greatB b=b.any λm=>decide (200<m):=by unfold greatB;grind
 rw[hga,hgb]
 have key:∀(n i:Nat) (x y:Int),i+n=a.length->0<=x/\x<=200*i->0<=y/\y<=200*i->zqz r a b (x-y) i=some (zat (!(a.drop i).any (λm=>decide (200<m))&&!(b.drop i).any (λm=>decide (200<m))&&ztZ r (a.drop i) (b.drop i) x y)):=by
  intro n
  induction n with
  |zero=>intro i x y hi hx hy;refine zzT ?_;rw[zac,zaH (by omega),zCN _ (by omega),za7,zJV,zcr (show a.length<=i by omega),zcr (show b.length<=i by omega)];rfl
  |succ n ih =>
    intro i x y hi hx hy;have h3:i<a.length:=by omega
    have h4:i<b.length:=by omega
    refine zzT ?_;simp(disch:=omega)only[zF,zb6,zaa h3,zaa h4];rw[zbe h3,zbe h4,zfd,zfd];by_cases h5:200<a[i]
    .rw[zaB h5,decide_eq_true h5];rfl
    rw[zaH h5,decide_eq_false h5,zc8];by_cases h6:200<b[i]
    .rw[zaB h6,decide_eq_true h6,Bool.true_or,zaG,zeq,zcU];rfl
    rw[zaH h6,decide_eq_false h6,zc8];have p1:=zDU (show a[i]<=200 by omega);have p2:=zDU (show b[i]<=200 by omega);rw[show(if(0:Int) > a[i]then 0 else a[i])=posI a[i]from rfl,show(if(0:Int) > b[i]then 0 else b[i])=posI b[i]from rfl,w6Q (n:=posI a[i]-posI b[i]),zCN _ (by omega),za7,zJV,zfy];unfold ztZ;split
    .rw[zeq];rfl
    . rw[w6Q,w6Q,show x-y+(posI a[i]-posI b[i])=(x+posI a[i])-(y+posI b[i])by omega]
      grind
 have:=key a.length 0 0 0 (by omega) (by omega) (by omega);simpa using this
def noteOf(c:List zcj)(p:Int):Option Int:=(c.find? λx=>x.xc==p).map (·.value)
def zqr(c:List zcj)(marks:aC):List GPart->Nat->List Int->List Int->Option (List Int×List Int)
 |[],_,x,y=>some (x,y)
 |p::r,i,x,y=>if p.r=1 then(match noteOf c i with
   |none=>none
   |some v=>zqr c marks r (i+1) (x++[marks.getD i 0]) (y++[v]))else zqr c marks r (i+1) x y
def zAJ{c:List zcj}{noted:ae}{script:Int}(h:∀pa,noteOf c pa=mfind ⟨script,pa⟩ noted)(marks:aC):∀(ps:List GPart) (i:Nat) (x y:aC),zqr c marks ps i x y=gather noted script marks ps i x y
 |[],_,_,_=>rfl
 |p::r,i,x,y=>by
   unfold zqr gather;rw[h];split
   . cases mfind (⟨script,(i:Int)⟩:za1) noted with
     |none=>rfl
     |some v=>exact zAJ h marks r (i+1) _ _
   .exact zAJ h marks r (i+1) _ _
def judgeR(r:zbK):Option (List Int×List Int)->Bool×Bool
 |none=>(false,false)
 |some (a,b)=>(true,goodS r a b)
def zIf{s:zam}(hs:zb2 s){n:Int}{i:Nat}{y:GSeed}(h:seedOf s.E n=some (i,y)):∃k p,zfA s n=some (k,p)/\znk p y.T:=by
 obtain⟨h1,h2,_⟩:=fnd_at h;obtain⟨k,p,h3,h4⟩:=hs.seed y (zav h1)
 grind
def zqE{s:zam}(hs:zb2 s):∀y∈s.E,y.T.length<=1000000:=by intro y hy;obtain⟨k',p',h1,h2⟩:=hs.seed y hy;have:=(hs.okPaper (zvZ h1)).2.2.1;have:=h2.1;omega
def c_judge(s:zam)(hs:zb2 s)(k:Nat)(p:zaQ)(i:Nat)(y:GSeed)(n:Int)(l:List zcj)(hk:zfA s n=some (k,p))(hy:seedOf s.E n=some (i,y))(hm:znk p y.T)
  (hl:l.length<=100000) (hn:(l.map (·.xc)).Nodup):cw 159 [.agg (zap s),I n,.sl 2 (mQ l)] []=some (zlY (judgeR s.H (zqr l y.T p.g 0 [] []))):=by
 have hx60:=hs.scripts.1;have hp32:=hs.papers;have hsd:=hs.seeds;have hpk:=zvZ hk;have hparts:p.g.length<=24:=(hs.okPaper hpk).2.2.1.2;refine zKS ?_;simp(disch:=omega)only[zl4 s n (by omega) (by omega),hk,ixR,zgf,zim s.E n (by omega) (zqE hs),hy,seedR,zf0];refine zbW p.g (λq rest=>∀(a b:aC),(a.length:Int)<=q->(b.length:Int)<=q->zmv s l ((k:Int),true) (y.T,true) (List.map zah a) (List.map zah b) q=some (zlY (judgeR s.H (zqr l y.T rest q.toNat a b)))) ?_ ?_ [] [] (by simp) (by simp)
 .intro a b ha hb;refine zx3 ?_;simp(disch:=omega)only[za,zR,zH,zeM,hpk,zae];rw[zaz (by simp),zaz (by simp),zLS s.H a b hs.monitor,zas];rfl
 . intro q hq rest _ ih a b ha hb;refine zx3 ?_;simp(disch:=omega)only[zF,zeM,hpk,zwA,zas];have hix:((q:Int)+1).toNat=q+1:=by omega
   rw[hix]at ih;unfold zqr;by_cases hop:p.g[q].r=1
   case neg =>
    rw[zbJ (by rintro⟨_,x,h1,h2⟩;simp_all),zbj,zaO,w6Q,if_neg hop]
    grind
   rw[zbq ⟨by omega,_,by simp_all,hop⟩,zaG,zay,if_pos hop];have hqm:q<y.T.length:=by have:=hm.1;omega
   have hgm:y.T.getD q 0=y.T[q]:=by rw[zgq,zaa hqm];rfl
   rw[hgm];refine(zbW l (λj rs=>(rs.map (·.xc)).Nodup->∀(a b:aC),((a.length:Int)<=q->(b.length:Int)<=q->zks s l ((k:Int),true) (y.T,true) q (List.map zah a) (List.map zah b) false j=some (zlY (judgeR s.H (match noteOf rs q with|none=>none|some v=>zqr l y.T rest (q+1) (a++[y.T[q]]) (b++[v])))))/\((a.length:Int)<=q+1->(b.length:Int)<=q+1->(∀x∈rs,x.xc≠q)->zks s l ((k:Int),true) (y.T,true) q (List.map zah a) (List.map zah b) true j=some (zlY (judgeR s.H (zqr l y.T rest (q+1) a b))))) ?_ ?_ hn a b).1 ha hb
   . intro _ a b;refine⟨λha hb=>?_,λha hb _=>?_⟩
     .refine zps ?_;rw[zac,zaH (by omega),zbj,zaO];rfl
     . refine zps ?_;rw[zac,zaH (by omega),zaG,zay,w6Q]
       simp_all
   . intro j hj rs _ ih2 hnd a b;simp only[zbX]at hnd;obtain⟨hn1,hn2⟩:=zhj.1 hnd;have ih3:=ih2 hn2;refine⟨λha hb=>?_,λha hb hne=>?_⟩
     . refine zps ?_;simp(disch:=omega)only[zI,zbp,zqR,zaa hj,zb6,zaa hqm,zdL zah];unfold noteOf;rw[List.find?_cons]
       cases hp:(l[j].xc==(q:Int))with
       |true =>
         rw[zaO]
         grind
       |false=>rw[zay];exact(ih3 a b).1 ha hb
     . refine zps ?_;simp(disch:=omega)only[zI,zbp,zqR,zaa hj,zb6,zaa hqm,zdL zah];rw[show(l[j].xc==(q:Int))=false by simp_all,zay]
       simp_all
def c_Has(l:aC)(n:Int)(hl:l.length<=1000000):cw 216 [.sl 1 (List.map zah l),I n] []=some (zat (dec (n∈l))):=by
 refine zM4 ?_;have key:=any_bool l.length (λj hj=>l[j]=n) (λi=>zru l n i) (λb=>zat b) ?_ ?_ ?_
 .rw[key];congr 2;refine zhz ⟨λ⟨j,hj,h⟩=>h▸zau hj,λh=>?_⟩;obtain⟨j,hj,rfl⟩:=zbB.1 h;exact⟨j,hj,rfl⟩
 .exact zvq (by simp(disch:=omega) [zaH]<;>rfl)
 .intro i hi h;refine zvq ?_;simp(disch:=omega) [zaB,zar,h];rfl
 .intro i hi y h hk;refine zvq ?_;simp(disch:=omega) [zaB,zar,w64_id,show(l[i]==n)=false by simpa using h,hk]
def ziL(a b c:Int):cw 154 [I a,I b,I c] []=some (zat (dec (b<=a/\a<=c))):=by
 refine e_ref24_in ?_;simp only[zV];split
 .rw[show decide (a<=c)=dec (b<=a/\a<=c)from zf1 (by simp_all)];rfl
 .rw[zbJ (by omega)];rfl
def zKy(l:aN)(hs:∀m∈l,m.u.length<=1000000)(hok:zrX l):cw 105 [.sl 5 (mI l)] []=some (zbv 0):=by
 obtain⟨hl,hm,ha⟩:=hok;refine zKK ?_;simp(disch:=omega)only[zH];refine zbW l (λi r=>zmn l i=some (zbv 0)) ?_ ?_
 .exact zxV (by simp(disch:=omega) [zaH]<;>rfl)
 . intro i hi r hr ih;have hp:=hs _ (zau hi);obtain⟨⟨a1,a2,a3,a4,a5⟩,a6⟩:=hm _ (zau hi)
   have last:∀j:Nat,l[i].u.length<=j->zkq l i l[i] j=some (zbv 0):=by
    intro j hj;refine zxX ?_;by_cases h:0<i
    .have:=ztD.2 ha i hi h;simp(disch:=omega) [zaB,zaH,zar,w64_id,zfX h,ih]
    .simp(disch:=omega) [zaH,w64_id,ih]
   have third:zkq l i l[i] 1=some (zbv 0):=by
    by_cases h1:1<=l[i].u.length
    . have H:=zqg (l[i].u.length-1) (λj hj=>l[i].u[j]<l[i].u[j+1]) (λj=>zkq l i l[i] (j+1)) (λ_=>True) (zbv 0) (λ_=>by grind)
       (λj hj _ hn=>absurd (a6 j (by omega)) hn)
       (λj hj z hg hz=>by
        have hg':l[i].u[j]<l[i].u[j+1]:=hg;refine zxX ?_;have e1:((j:Int)+1).toNat=j+1:=by omega
        simp(disch:=omega) [zaB,zaH,zar,w64_id,e1,hz])
      rcases H with⟨_,h⟩|⟨⟨j,hj,hn⟩,_⟩
      .exact h
      .exact absurd (a6 j (by omega)) hn
    .have:=last 1 (by omega);simpa using this
   have second:zmo l i l[i] 0=some (zbv 0):=by
    refine zbW l[i].u (λj r=>zmo l i l[i] j=some (zbv 0)) ?_ ?_
    . refine zxW ?_
      simp_all
    .intro j hj r hr ih2;refine zxW ?_;simp(disch:=omega) [zaB,zar,w64_id,ziL,zbq (a5 _ (zau hj)),ih2]
   refine zxV ?_;simp(disch:=omega) [zaB,zar,ziL,zbq a1,zbq a2,zbq a3,zbq a4,second]
def zAo(l:aT):∃e,cw 106 [.sl 7 (mG l)] []=some (zbv e)/\(e=0↔zl1 l):=by
 by_cases hl:l.length<=60
 . have H:=all_err l.length (λj hj=>znP l[j]/\∀h:0<j,(l[j-1]'(by omega)).j<l[j].j) (λi=>zh4 l i) (λe=>zbv e) ?_ ?_ ?_
   .obtain⟨e,h1,h2⟩:=H;exact⟨e,zsA (by simp(disch:=omega) [zaH,h1]),h2.trans (zBx hl)⟩
   .exact zeG (by simp(disch:=omega) [zaH]<;>rfl)
   . intro i hi hg;by_cases a1:(0<=l[i].xa/\l[i].xa<=31)
     case neg=>refine⟨2,by omega,zeG ?_⟩;simp(disch:=omega) [zaB,zar,ziL,zbJ a1];rfl
     by_cases a2:(0<=l[i].y/\l[i].y<=9999)
     case neg=>refine⟨2,by omega,zeG ?_⟩;simp(disch:=omega) [zaB,zar,ziL,zbq a1,zbJ a2];rfl
     by_cases a3:(0<=l[i].Q/\l[i].Q<=99)
     case neg=>refine⟨2,by omega,zeG ?_⟩;simp(disch:=omega) [zaB,zar,ziL,zbq a1,zbq a2,zbJ a3];rfl
     by_cases a4:(0<=l[i].L/\l[i].L<=31)
     case neg=>refine⟨2,by omega,zeG ?_⟩;simp(disch:=omega) [zaB,zar,ziL,zbq a1,zbq a2,zbq a3,zbJ a4];rfl
     by_cases a5:l[i].j=l[i].xa*10000+l[i].y
     case neg=>refine⟨1,by omega,zeG ?_⟩;simp(disch:=omega) [zaB,zar,ziL,zbq a1,zbq a2,zbq a3,zbq a4,w64_id,show(l[i].j !=l[i].xa*10000+l[i].y)=true by simpa using a5];rfl
     by_cases a6:l[i].A.length<=12
     case neg=>refine⟨1,by omega,zeG ?_⟩;simp(disch:=omega) [zaB,zar,ziL,zbq a1,zbq a2,zbq a3,zbq a4,w64_id,<-a5];rfl
     have h1:znP l[i]:=⟨a1,a2,a3,a4,a5,a6⟩
     have h0:0<i:=by
      apply zfD
      rintro rfl
      exact hg ⟨h1,λh=>absurd h (by omega)⟩
     have h3:¬(l[i-1].j<l[i].j):=λh=>hg ⟨h1,λ_=>h⟩
     refine⟨43,by omega,zeG ?_⟩;simp(disch:=omega) [zaB,zaH,zar,w64_id,zfX h0,ziL,zbq a1,zbq a2,zbq a3,zbq a4,<-a5];rfl
   . intro i hi y hg hk;obtain⟨h1,h3⟩:=hg;refine zeG ?_;obtain⟨a1,a2,a3,a4,a5,a6⟩:=h1;by_cases h0:0<i
     .have h4:=h3 h0;simp(disch:=omega) [zaB,zaH,zar,w64_id,zfX h0,ziL,zbq a1,zbq a2,zbq a3,zbq a4,<-a5,hk]
     .simp(disch:=omega) [zaB,zaH,zar,w64_id,ziL,zbq a1,zbq a2,zbq a3,zbq a4,<-a5,hk]
 .refine⟨3,zsA ?_,by omega,λh=>absurd h.1 hl⟩;simp(disch:=omega) [zaB];rfl
def zHj(p:zaQ)(s:zbu)(hs:Short s)(hp:ze5 p s)(j:Nat)(hj:j<p.g.length)(hj1:j<s.U.length)(h2:p.g[j].r=2)(v:Int):cw 156 [.agg (zaU p),.agg (zbI s),I j,I v] []=some (zat (accB p.g[j] s.U[j] v)):=by
 refine zHG ?_;have hkl:=hs _ (zau hj1);unfold accB;by_cases h:s.U[j]=[]
 .simp(disch:=omega) [zic p s hs,zbq hp,zaH,zar,h2,h];rfl
 . have hne:(((s.U[j]).length:Int)==0)=false:=by simpa using h
   simp(disch:=omega) [zic p s hs,zbq hp,zaH,zar,h2,h,c_Has _ _ hkl];rw[hne,zay];rfl
def zzk(p:zaQ)(s:zbu)(a:aC)(hs:Short s):∃r:List Int×Int,cw 110 [.agg (zaU p),.agg (zbI s),.sl 1 (List.map zah a)] []=some (zcW r)/\(r.2=0↔ze5 p s/\OkAns p a)/\(r.2=0->r.1=zhg p s a):=by
 by_cases hp:ze5 p s
 case neg=>refine⟨([],1),ztK ?_,by simp[hp],by simp⟩;simp only[zic p s hs,zas,zbJ hp];rfl
 obtain⟨hP,hk,hw,hall⟩:=id hp;have hpl:=hP.2.2.1;by_cases ha:a.length=p.g.length
 case neg=>refine⟨([],22),ztK ?_,by simp[OkAns,ha],by simp⟩;simp only[zO,zic p s hs,zas,zbq hp,zac,show((a.length:Int) !=p.g.length)=true by grind,zaO];rfl
 have start:∀y,zik p s a (List.map zah []) 0=some y->cw 110 [.agg (zaU p),.agg (zbI s),.sl 1 (List.map zah a)] []=some y:=by intro y hy;refine ztK ?_;simp only[zG,zic p s hs,zas,zbq hp,zaG,zac,ha];exact hy
 have H:=zqg p.g.length (λj hj=>p.g[j].r≠1->-2<=a[j]'(by omega)/\a[j]'(by omega)<p.g[j].O) (λi=>zik p s a (List.map zah ((List.range i.toNat).map (zeh p s a))) i) (λy=>y=zcW ([],2)) (zcW (zhg p s a,0)) ?_ ?_ ?_
 . rcases H with⟨h1,h2⟩|⟨⟨j,hj,h1⟩,y,rfl,h3⟩
   . refine⟨_,start _ h2,⟨λ_=>⟨hp,ha,λj x v q1 q2 q3=>?_⟩,λ_=>rfl⟩,λ_=>rfl⟩
     grind
   .refine⟨_,start _ h3,⟨λh=>by simp at h,λh=>?_⟩,λh=>by simp at h⟩;exact absurd (λq3=>h.2.2 j _ _ (zaa hj) (zaa (by omega)) q3) h1
 .intro _;refine zrU ?_;simp(disch:=omega)only[za,zH,zdj];rw[show List.take p.g.length (List.map zah (List.map (zeh p s a) (List.range p.g.length)))=List.map zah (zhg p s a)from zaz (by simp)];rfl
 . intro i hi _ hn;have hi2:i<a.length:=by omega
   refine⟨_,rfl,zrU ?_⟩;rcases kind2 (hP.2.2.2.1 _ (zau hi))with h1|h1
   .omega
   . have h2:¬(-2<=a[i]/\a[i]<p.g[i].O):=λh=>hn (λ_=>h)
     by_cases h5:a[i] < -2
     .simp(disch:=omega) [zaB,zar,h1];rfl
     .simp(disch:=omega) [zaB,zaH,zar,h1];rfl
 . intro i hi y hg hk';have hi1:i<s.U.length:=by omega
   have hi2:i<a.length:=by omega
   have e1:((i:Int)+1).toNat=i+1:=by omega
   have hc:zeh p s a i=if p.g[i].r=1 then -2 else if accB p.g[i] s.U[i] a[i]=true then p.g[i].xb else if a[i]=-1 then -1 else 0:=by simp[zeh,hi,hi1,hi2]
   simp only[e1,zeI,zbS,zbX,zdH]at hk';have hx:=hP.2.2.2.1 _ (zau hi);refine zrU ?_;rcases kind2 hx with h1|h1
   .rw[hc,if_pos h1]at hk';simp(disch:=omega)only[zZ,zI,zdj,zby,zcA,zcN,zbp,zen,zaa hi,h1];exact hk'
   . rw[hc,iNQ]at hk';have h2:=hg (by omega);have hacc:=zHj p s hs hp i hi hi1 h1 a[i];have hk2:(p.g[i].r==1)=false:=by rw[h1];rfl
     have fin:∀v:Int,v=(if accB p.g[i] s.U[i] a[i]=true then p.g[i].xb else if a[i]=-1 then -1 else 0)->zko p s a (List.map zah ((List.range i).map (zeh p s a))) i v=some y:=by intro v hv;refine zzR ?_;simp(disch:=omega)only[zK,zdj,zby,zcA,zcN,w64_id];rw[hv];exact hk'
     have noacc:a[i]=-1->accB p.g[i] s.U[i] a[i]=false:=by
      intro h;unfold accB;have hks:=(hall i _ _ (s.v[i]'(by omega)) (zaa hi) (zaa hi1) (zaa (by omega))).1;split
      . have:0<=p.g[i].xp:=by unfold OkPart at hx;omega
        grind
      .exact zbJ (λhm=>by have:=hks.1 _ hm;omega)
     have e16:∀v:Int,zlH p s a (List.map zah ((List.range i).map (zeh p s a))) i=some y\/a[i]≠-1:=by
      intro _;by_cases h3:a[i]=-1
      . left;refine zB4 ?_;simp(disch:=omega)only[zK,zdj,zby,zcA,zcN,w64_id]
        simp_all
      .exact .inr h3
     simp(disch:=omega)only[zF,zaH,zen,zb6,zaa hi,zaa hi2,hk2,zay,hacc,zas]
     cases hb:accB p.g[i] s.U[i] a[i]with
     |true =>
       have h3:a[i]≠-1:=λh=>by simp_all
       rw[zaO];refine zB3 ?_;simp(disch:=omega)only[za,zb6,zaa hi2,zae,show(a[i]==-1)=false by simpa using h3,zay]
       simp_all
     |false =>
       rw[zay];refine zzQ ?_;by_cases h3:a[i]=-1
       .simp_all
       . simp(disch:=omega)only[za,zb6,zaa hi2,zae,show(a[i]==-1)=false by simpa using h3,zay]
         simp_all
def zCM(p:zaQ)(m:aC)(hl:p.g.length<=1000000)(h:znk p m):cw 112 [.agg (zaU p),.sl 1 (List.map zah m)] []=some (zat true):=by
 obtain⟨h1,h2⟩:=h;refine zL9 ?_;simp only[zG,zac,h1];refine zbW m (λi r=>zqy p m i=some (zat true)) ?_ ?_
 .exact zzS (by simp(disch:=omega) [zaH]<;>rfl)
 . intro i hi r hr ih;have hi2:i<p.g.length:=by omega
   have:=h2 i _ _ (zaa hi2) (zaa hi);refine zzS ?_;simp(disch:=omega) [zaB,zaH,zar,w64_id,ih]
def zrm{s:zam}(h:zb2 s):cw 63 [.agg (zap s)] []=some (zbv 0):=by
 obtain⟨e2,h3,h4⟩:=zAo s.c;have g2:=h4.2 h.scripts;subst g2;have hp:=h.papers;have hl:=h.len;have hsd:=h.seeds;have hsl:=h.scripts.1
 have third:zkr s 0=some (zbv 0):=by
  refine zbW s.E (λi r=>zkr s i=some (zbv 0)) ?_ ?_
  .exact zx2 (by simp(disch:=omega) [zaH]<;>rfl)
  . intro i hi r hr ih;obtain⟨k,p,q1,q2⟩:=h.seed _ (zau hi);have hpk:=zvZ q1;have hpl:=(h.okPaper hpk).2.2.1;refine zx2 ?_;by_cases h0:0<i
    .have:=ztD.2 h.asc i hi h0;simp(disch:=omega) [zaB,zaH,zar,w64_id,zfX h0,zl4 s _ (by omega) (by omega),q1,ixR,hpk,zCM _ _ (by omega) q2,ih]
    .simp(disch:=omega) [zaB,zaH,zar,w64_id,zl4 s _ (by omega) (by omega),q1,ixR,hpk,zCM _ _ (by omega) q2,ih]
 have second:zmu s 0=some (zbv 0):=by
  refine zbW s.c (λi r=>zmu s i=some (zbv 0)) ?_ ?_
  .exact zx1 (by simp_all)
  .intro i hi r hr ih;obtain⟨k,p,c,q1,q2,q3⟩:=h.script _ (zau hi);have hpk:=(zfb q1).1;obtain⟨w,hw,hw1,hw2⟩:=zzk p c s.c[i].X (h.short _ (zav q2));have hw0:w.2=0:=hw1.2 ⟨h.schemes k p c hpk q2,q3⟩;refine zx1 ?_;simp(disch:=omega) [zaB,zar,w64_id,zu7 _ _ (show s.u.length<=1000000 by omega),q1,ixR,hpk,q2,hw,hw0,ih]
 have first:zmt s 0=some (zbv 0):=by
  refine zbW s.u (λi r=>zmt s i=some (zbv 0)) ?_ ?_
  .exact zx0 (by simp_all)
  . intro i hi r hr ih;have hi2:i<s.V.length:=by omega
    have hv:=h.schemes i _ _ (zaa hi) (zaa hi2);refine zx0 ?_;simp(disch:=omega) [zaB,zar,w64_id,zic _ _ (h.short _ (zau hi2)),zbq hv,ih]
 refine zKR ?_;simp(disch:=omega) [zKy _ h.short2 h.markers,h3,zu8 _ h.monitor,hl,zaH,first]
def zBn(r:zbg):cw 130 [.agg (zbt r)] []=some (zbv (chkR r)):=by
 refine zKU ?_;unfold chkR;simp only[zV];split
 .rfl
 .split<;>rfl
def cmp_less(a b:zbf):decide (0<=cmpS a b)=!lessS a b:=by
 unfold cmpS lessS;simp only[zns,cmpI];by_cases h1:a.n=b.n
 . by_cases h2:a.b=b.b
   . by_cases h3:a.B<b.B
     .simp[h1,h2,h3]
     . by_cases h4:b.B<a.B
       .simp[h1,h2,h3,h4]
       .simp[h1,h2,h3,h4]
   . by_cases h3:a.b<b.b
     .simp[h1,h2,h3]
     . have h4:b.b<a.b:=by omega
       simp[h1,h2,h3,h4]
 . by_cases h3:a.n<b.n
   .simp[h1,h3]
   . have h4:b.n<a.n:=by omega
     simp[h1,h3,h4]
def mean_ref(l:aL)(h0:l≠[]):(2*sumW l+l.length).tdiv (2*l.length)=mean l:=by
 have hpos:0<l.length:=zfR.2 h0;have h2:=zoT l;have h3:0<=(sumW l).tmod l.length:=Int.tmod_nonneg _ h2;have h4:(sumW l).tmod l.length<l.length:=zfC _ (by omega);have h6:=Int.mul_tdiv_add_tmod (sumW l) l.length;generalize hn:(l.length:Int)=n at *;generalize hq:(sumW l).tdiv n=q at *;generalize hr:(sumW l).tmod n=t at *
 have key:∀e:Int,0<=e->e<2*n->2*sumW l+n=2*n*(q+(if n<=2*t then 1 else 0))+e->(2*sumW l+n).tdiv (2*n)=q+(if n<=2*t then 1 else 0):=by intro e he0 he1 he;rw[Int.tdiv_eq_ediv_of_nonneg (by omega),he,Int.mul_add_ediv_left _ _ (by omega),Int.ediv_eq_zero_of_lt he0 he1,zfx]
 have hm:mean l=q+(if n<=2*t then 1 else 0):=by unfold mean;rw[hn,hq,hr];split<;>omega
 rw[hm];split at key
 .rename_i hc;rw[if_pos hc];refine key (2*t-n) (by omega) (by omega) ?_;rw[Int.mul_add,Int.mul_assoc,<-h6];omega
 .rename_i hc;rw[if_neg hc];refine key (2*t+n) (by omega) (by omega) ?_;rw[zfx,Int.mul_assoc,<-h6];omega
def mean_one(g:za6):mean [g]=worth g:=by
 have h:=zh6 g;have h1:sumW [g]=worth g:=by rw[zuI];simp[sumW]
 unfold mean;rw[h1];simp only[zcA,zcN];have h2:(worth g).tmod (((0+1:Nat):Nat):Int)=0:=by simp
 have h3:(worth g).tdiv (((0+1:Nat):Nat):Int)=worth g:=by simp
 rw[h2,h3];simp
def zIN(r:zbg)(l:aL)(hl:l.length<=100000)(hv:∀g∈l,g.s<=1099511627776):cw 177 [.agg (zbt r),.sl 8 (mC l)] []=some (zgm (zgQ r l)):=by
 have hw:∀g∈l,worth g<=1099511627776:=λg hg=>by have:=hv g hg;unfold worth;split<;>omega
 have hs:sumW l<=109951162777600000:=by have h1:=sumW_le l _ hw;have h2:(l.length:Int)*1099511627776<=100000*1099511627776:=zhw (by omega) (by omega);omega
 have hs0:=zoT l;refine zI3 ?_
 have second:(zlm l).2=false->∀g,l[0]?=some g->(l.length=1->r.xn=false)->zjE r l 0 (worth g) 0 0=some (zgm (zgQ r l)):=by
  intro hd g hg h1;have hlpos:0<l.length:=(zao.1 hg).1;have hne:l≠[]:=zfR.1 hlpos;have hgm:=zav hg;have hmean:=mean_ref l hne;have hmb:=mean_bd l hne _ hw;have q1:=minW_bd l (worth g) (zh6 g);have q2:=maxW_bd l _ hw 0 (by omega)
  have hdv:zgQ r l=if l.length=1 then⟨3,mean l⟩else if r.K<maxW l 0-minW l (worth g)then⟨2,0⟩else⟨3,mean l⟩:=by
   unfold zgQ;rw[if_neg (by simp[hd])]
   match l,hg,h1 with
   |[],hg,_=>simp at hg
   |[x],hg,h1=>dsimp only;rw[if_neg (by simp[h1 rfl]),mean_one];simp
   |x::y::t,hg,_ =>
     simp only[zb3,zaj]at hg;subst hg
     have hm:maxW (x::y::t) 0=maxW (x::y::t) (worth x):=by have:=zh6 x;simp only[maxW,zcG];congr 1;split<;>split<;>omega
     rw[hm];simp
  refine zbW l (λi s=>∀(q a b:Int),0<=q->q+sumW s=sumW l->minW s a=minW l (worth g)->maxW s b=maxW l 0->zjE r l q a b i=some (zgm (zgQ r l))) ?_ ?_ 0 (worth g) 0 (by omega) (by simp) rfl rfl
  . intro q a b hq hqs ha hb;have hqs':q=sumW l:=by simpa[sumW]using hqs
    have ha':a=minW l (worth g):=ha;have hb':b=maxW l 0:=hb;have hwg:=hw g hgm;refine zxd ?_;simp(disch:=omega)only[zH,w64_id,hqs',hmean,zar,ha',hb'];rw[hdv];by_cases h2:l.length=1
    .simp(disch:=omega)only[zaH,if_pos h2];rfl
    .rw[if_neg h2];simp(disch:=omega)only[zaB];simp only[zV];split<;>rfl
  . intro i hi s _ ih q a b hq hqs ha hb;have hwi:=hw _ (zau hi);have hwi0:=zh6 l[i];have hss:=zoT s;rw[zuI]at hqs;have hwo:(if 0 > l[i].s then 0 else l[i].s)=worth l[i]:=by unfold worth;rfl
    refine zxd ?_;simp(disch:=omega)only[zI,zes,zaa hi,hwo];exact ih _ _ _ (by omega) (by omega) ha hb
 have first:=zbW l (λi s=>∀(b:za6×Bool) (k:Int),s.foldl stepD b=zlm l->(b.2=false->k=-1)->(b.2=true->0<=k/\l[k.toNat]?=some b.1)->zfs r l k i=some (zgm (zgQ r l))) ?_ ?_ (⟨0,0,0,0,0,⟨0,0,0⟩⟩,false) (-1) rfl (by simp) (by simp)
 .exact first
 . intro b k hb hk0 hk1;have hb':b=zlm l:=hb;subst hb';refine zxc ?_
   cases hd:(zlm l).2 with
   |true=>obtain⟨h0,hkl⟩:=hk1 hd;simp(disch:=omega)only[zH,zaB,zar,zes,hkl,zae];rw[show zgQ r l=⟨3,worth (zlm l).1⟩by unfold zgQ;rw[if_pos hd]];rfl
   |false =>
     have hk:=hk0 hd;subst hk;simp(disch:=omega)only[zH];by_cases hz:l.length=0
     .have:l=[]:=zcV hz;subst this;rfl
     . have hlt:0<l.length:=by omega
       have hz':((l.length:Int)==0)=false:=by simp only[beq_eq_false_iff_ne,ne_eq];omega
       have hwo:(if(0:Int) > (l[0]'hlt).s then(0:Int)else(l[0]'hlt).s)=worth (l[0]'hlt):=by unfold worth;rfl
       simp(disch:=omega)only[hz',zay,zar,zes,show l[Int.toNat 0]?=some l[0]from zaa hlt,zae,hwo];by_cases h1:l.length=1
       . simp only[show((l.length:Int)==1)=true by simp[h1],zaO]
         cases hdb:r.xn with
         |true =>
           simp only[zaO]
           match l,h1 with
           |[x],_=>unfold zgQ;rw[if_neg (by simp[hd])];dsimp only;rw[if_pos hdb];rfl
         |false=>simp only[zay];exact second hd _ (zaa hlt) (λ_=>hdb)
       .simp only[show((l.length:Int)==1)=false by simp only[beq_eq_false_iff_ne,ne_eq];omega,zay];exact second hd _ (zaa hlt) (λh=>absurd h h1)
 . intro i hi s _ ih b k hb hk0 hk1;rw[zcG]at hb;have keep:stepD b l[i]=b->zfs r l k ((i:Int)+1)=some (zgm (zgQ r l)):=λh=>ih b k (by rw[h]at hb;exact hb) hk0 hk1
   have take:stepD b l[i]=(l[i],true)->zfs r l i ((i:Int)+1)=some (zgm (zgQ r l)):=λh=>ih (l[i],true) i (by rw[h]at hb;exact hb) (by simp) (λ_=>⟨by omega,by simp[hi]⟩)
   refine zxc ?_;simp(disch:=omega)only[zI,zes,zaa hi];by_cases h2:2<=l[i].I
   . simp(disch:=omega)only[zaB]
     cases hb2:b.2 with
     |false=>have hk:=hk0 hb2;simp(disch:=omega)only[zaB];exact take (by unfold stepD;rw[iNQ,if_pos (Or.inl hb2)])
     |true =>
       obtain⟨h0,hkl⟩:=hk1 hb2;simp(disch:=omega)only[zaH,zar,zes,hkl,zae,zaa hi];by_cases h3:b.1.I<l[i].I
       .simp(disch:=omega)only[zaB];exact take (by unfold stepD;rw[iNQ,if_pos (Or.inr (Or.inl h3))])
       . simp(disch:=omega)only[zaH];by_cases h4:l[i].I=b.1.I
         . simp only[show(l[i].I==b.1.I)=true by simpa using h4,zaO,zsw,zas];have hc:=cmp_less l[i].a b.1.a
           cases hls:lessS l[i].a b.1.a with
           |false=>simp only[zW];rw[hls]at hc;exact take (by unfold stepD;rw[iNQ,if_pos (Or.inr (Or.inr ⟨h4,by simpa using hc⟩))])
           |true =>
             simp only[zO];rw[hls]at hc;have hc':¬0<=cmpS l[i].a b.1.a:=by simpa using hc
             exact keep (by unfold stepD;rw[iNQ,if_neg (λh=>h.elim (λh=>by simp[hb2]at h) λh=>h.elim h3 λh=>hc' h.2)])
         .simp only[show(l[i].I==b.1.I)=false by simpa using h4,zay];exact keep (by unfold stepD;rw[iNQ,if_neg (λh=>h.elim (λh=>by simp[hb2]at h) λh=>h.elim h3 λh=>h4 h.1)])
   .simp(disch:=omega)only[zaH];exact keep (by unfold stepD;rw[iPQ])
def zFN(m:zaJ)(n p:Int)(hl:m.M.length<=1000000):cw 178 [.agg (zaT m),I n,I p] []=some (zjY (countG m n p)):=by
 refine zGa ?_;refine zbW m.M (λi r=>∀out:List za6,(out.length:Int)<=i->zix m n p (mC out) i=some (zjY (out++r.filter λg=>g.h==n&&g.x==p))) ?_ ?_ [] (by simp)
 .intro out _;refine zuX ?_;simp(disch:=omega)only[zH,zbp,zcX,zcu];rfl
 . intro i hi r _ ih out ho;refine zuX ?_;simp(disch:=omega)only[zI,zes,zaa hi,zbp,zdL zaE,zbU]
   cases m.M[i].h==n with
   |false=>simp only[zQ,zay,zcU];exact ih out (by omega)
   |true =>
     simp only[zaO,zcy]
     cases m.M[i].x==p with
     |false=>simp only[zQ,zay];exact ih out (by omega)
     |true=>simp only[zaO,if_true];have:=ih (out++[m.M[i]]) (by simp;omega);rw[zcp,zee]at this;exact this
def zFO(r:zbg)(s:zam)(hs:zb2 s)(m:zaJ)(hg:m.M.length<=100000)(hm:SmallM m)(n:Int):cw 131 [.agg (zbt r),.agg (zap s),.agg (zaT m),I n] []=some (zil (verdR r s m n)):=by
 have hx60:=hs.scripts.1;have hp32:=hs.papers;have hsd:=hs.seeds;refine zGb ?_;unfold verdR;simp only[zG,zrm hs,za7,zBn,za7];by_cases hr:chkR r=0
 case neg=>rw[if_neg hr];simp only[show(chkR r !=0)=true by simpa using hr,zaO];rfl
 rw[if_pos hr];simp(disch:=omega)only[zG,hr,ztE s.c n (show s.c.length<=1000000 by omega),zin]
 cases hso:zf4 s.c n with
 |none=>simp only[zW,scR];rfl
 |some x =>
   obtain⟨hx,hxn⟩:=zrc hso;subst hxn;obtain⟨k,p,c,hk,hc,ha⟩:=hs.script x hx;have hpk:=(zfb hk).1;have hok:=hs.schemes k p c hpk hc;have hparts:=hok.1.2.2.1;have hwl:=hok.2.2.1;have hpo:zfA s x.j=some (k,p):=by unfold zfA;rw[hso];exact hk
   obtain⟨rc,erc,hrc,hrc2⟩:=zzk p c x.X (hs.short c (zav hc));have hz:=hrc.2 ⟨hok,ha⟩;have hcl:=hrc2 hz;obtain⟨rc1,rc2⟩:=rc;simp only at hz hcl;subst hz;subst hcl
   have hvS:verdS r s m x=verdL r m x p c (seedOf s.E x.j):=by unfold verdS;rw[hk];dsimp only;rw[hc];rfl
   dsimp only;rw[hvS];simp(disch:=omega)only[za,zO,scR,zl4 s x.j (show s.c.length<=1000000 by omega) (show s.u.length<=1000000 by omega),hpo,ixR,zgf,zeM,hpk,zae,zkB,hc,erc,ze7,zim s.E x.j (show s.E.length<=1000000 by omega) (zqE hs),zf0,zbO];have loop:=zbW p.g (λi _=>ziy r s m x.j ((k:Int),true) (zhg p c x.X,0) (seedR (seedOf s.E x.j)) (mT ((List.range i.toNat).map (verdAt r m x p c (seedOf s.E x.j)))) i=some (zil (verdL r m x p c (seedOf s.E x.j),0))) ?_ ?_
   .exact loop
   .refine zuY ?_;simp(disch:=omega)only[za,zR,zH,zeM,hpk,zae,zdj];rw[zaz (by simp)];rfl
   . intro i hi _ _ ih;have hiw:i<c.v.length:=by omega
     have hix:((i:Int)+1).toNat=i+1:=by omega
     rw[hix,zeI]at ih;simp only[zbS]at ih;simp only[zbX]at ih;simp only[zdH]at ih;(try simp only[<-zdL zcs]at ih);have hcl:i<(zhg p c x.X).length:=by simp[zhg];omega
     have hcv:(zhg p c x.X)[i]=zeh p c x.X i:=by simp[zhg]
     have hkd:=kind2 (hok.1.2.2.2.1 _ (zau hi))
     have hva:verdAt r m x p c (seedOf s.E x.j) i=if p.g[i].r=2\/c.v[i]≠0 then⟨3,if 0 > zeh p c x.X i then 0 else zeh p c x.X i⟩else match seedOf s.E x.j with
        |some (_,sd)=>⟨3,sd.T.getD i 0⟩
        |none=>zgQ r (countG m x.j i):=by
       unfold verdAt;rw[zaa hi,zaa hiw];rfl
     have hlr:(List.map (verdAt r m x p c (seedOf s.E x.j)) (List.range i)).length=i:=by simp
     have m1015:(p.g[i].r=2\/c.v[i]≠0)->zkt r s m x.j ((k:Int),true) (zhg p c x.X,0) (seedR (seedOf s.E x.j)) (mT ((List.range i).map (verdAt r m x p c (seedOf s.E x.j)))) i=some (zil (verdL r m x p c (seedOf s.E x.j),0)):=by intro hor;refine zzW ?_;simp(disch:=omega)only[zX,zK,hlr,zaf,zb6,zaa hcl,hcv];rw[hva,if_pos hor]at ih;exact ih
     refine zuY ?_;simp(disch:=omega)only[zF,zeM,hpk,zwA,zas,zkB,hc,zb6,zaa hiw];by_cases h1:p.g[i].r=2
     .rw[zbJ (show¬OpenP p (i:Int)by rintro⟨_,y,h2,h3⟩;rw[zaf,zaa hi]at h2;cases h2;omega)];simp only[zW];exact m1015 (Or.inl h1)
     . rw[zbq (show OpenP p (i:Int)from⟨by omega,_,by rw[zaf];exact zaa hi,by omega⟩)];simp only[zO];by_cases h2:c.v[i]=0
       . simp only[show(c.v[i] !=0)=false by simpa using h2,zay];rw[if_neg (by rintro(h|h)<;>contradiction)]at hva
         cases ho:seedOf s.E x.j with
         |some q =>
           obtain⟨q,sd⟩:=q;obtain⟨k',p',hpo',hmk⟩:=zIf hs ho;rw[hpo]at hpo';cases hpo';have him:i<sd.T.length:=by have:=hmk.1;omega
           rw[ho]at hva ih;have hgd:sd.T.getD i 0=sd.T[i]:=by simp[him]
           dsimp only at hva;rw[hva,hgd]at ih;simp(disch:=omega)only[zX,zK,seedR,zaO,zb6,zaa him,zdj];simp only[seedR]at ih;exact ih
         |none=>rw[ho]at hva ih;dsimp only at hva;rw[hva]at ih;have hct:=hm.count x.j i;have hcl2:(countG m x.j i).length<=100000:=zbY (zcv _ _) hg;simp(disch:=omega)only[zR,seedR,zay,zFN m x.j i hm.1,zsy,zac];rw[zaz (by simp)];simp(disch:=omega)only[zK,zIN r _ hcl2 hct.2,zuu,zdj,w64_id];simp only[seedR]at ih;exact ih
       .simp only[show(c.v[i] !=0)=true by simpa using h2,zaO];exact m1015 (Or.inr h2)
def zIL(p:zaQ)(c:zbu)(l:aC)(hs:Short c)(hok:ze5 p c)(hl:l.length=p.g.length)(hm:zoG p c l):cw 179 [.agg (zaU p),.agg (zbI c),.sl 1 (List.map zah l)] []=some (zat true):=by
 have hpl:=hok.1.2.2.1;have hwl:=hok.2.2.1;refine zI0 ?_;simp only[zG,zic p c hs,zas,zbq hok,zaG,zac,hl];refine zbW l (λi _=>zls p c l i=some (zat true)) ?_ ?_
 .exact zxb (by simp(disch:=omega)only[zH];rfl)
 . intro i hi _ _ ih;have hiw:i<c.v.length:=by omega
   have hip:i<p.g.length:=by omega
   refine zxb ?_;simp(disch:=omega)only[zI,zb6,zaa hi,zaa hiw,zvz p c i _ l[i] hs hok (zaa hip),zas,ih];by_cases hw:c.v[i]=0
   .simp only[zO,show(c.v[i]==0)=true by simpa using hw,zaO,zbq (hm i _ _ _ (zaa hip) (zaa hiw) (zaa hi) hw)]
   .simp only[show(c.v[i]==0)=false by simpa using hw,zay]
def zKx(p:zaQ)(c:zbu)(l:aC)(hs:Short c)(hok:ze5 p c)(hl:l.length=p.g.length)(hm:zoG p c l):cw 132 [.agg (zaU p),.agg (zbI c),.sl 1 (List.map zah l)] []=some (zjJ (sumT p.g c.v l,0)):=by
 have hpl:=hok.1.2.2.1;have hwl:=hok.2.2.1;refine zKI ?_;simp only[zG,zic p c hs,zas,zbq hok,zaG,zac,hl,zIL p c l hs hok hl hm,zas];have loop:=zbW l (λi r=>∀a:Int,0<=a->a<=40*i->zkp p c l a i=some (zjJ (a+sumT (p.g.drop i.toNat) (c.v.drop i.toNat) r,0))) ?_ ?_ 0 (by omega) (by omega)
 .rw[loop];simp
 .intro a _ _;refine zxU ?_;have:p.g.drop ((l.length:Int)).toNat=[]:=zds (by omega);simp(disch:=omega)only[zH,this,sumT,zfx];rfl
 . intro i hi r _ ih a h0 h1;have hiw:i<c.v.length:=by omega
   have hip:i<p.g.length:=by omega
   have hix:((i:Int)+1).toNat=i+1:=by omega
   rw[hix]at ih;have hxo:=hok.1.2.2.2.1 _ (zau hip);have hmx:=hxo.1;have hw:=(hok.2.2.2 i _ (c.U[i]'(by have:=hok.2.1;omega)) _ (zaa hip) (zaa _) (zaa hiw)).2
   have hval:c.v[i]=0->l[i]<=40:=by intro h;have:=hm i _ _ _ (zaa hip) (zaa hiw) (zaa hi) h;unfold PermP at this;split at this<;>omega
   refine zxU ?_;simp(disch:=omega)only[zF,zb6,zaa hi,zaa hiw,zen,zaa hip];rw[zbe hip,zbe hiw,sumT,<-Int.add_assoc];unfold termT;rw[w6Q (n:=(i:Int)+1)];by_cases h0':c.v[i]=0
   . have:=hval h0';simp only[show(c.v[i]==0)=true by simpa using h0',zaO];rw[if_neg (show¬c.v[i]=1 by omega),if_neg (show¬c.v[i]=2 by omega)];have hu:0<=(if(0:Int) > l[i]then(0:Int)else l[i])/\(if(0:Int) > l[i]then(0:Int)else l[i])<=40:=by split<;>omega
     generalize (if(0:Int) > l[i]then(0:Int)else l[i])=u at hu;rw[w6Q];exact ih _ (by omega) (by omega)
   . simp only[show(c.v[i]==0)=false by simpa using h0',zay];by_cases h1':c.v[i]=1
     .simp only[show(c.v[i]==1)=true by simpa using h1',zaO];rw[if_pos h1',w6Q];exact ih _ (by omega) (by omega)
     .simp only[show(c.v[i]==1)=false by simpa using h1',zay];rw[if_neg h1',iPQ,zfx];exact ih _ (by omega) (by omega)
def zBo(r:zbg)(s:zam)(hs:zb2 s)(m:zaJ)(hgl:m.M.length<=100000)(hm:SmallM m)(hg:∀g∈m.M,zk8 s g)(n:Int):cw 85 [.agg (zbt r),.agg (zap s),.agg (zaT m),I n] []=some (zkC (totR r s m n)):=by
 have hx60:=hs.scripts.1;have hp32:=hs.papers;unfold totR;refine zKV ?_;simp only[zFO r s hs m hgl hm n,zkU];unfold verdR;by_cases hr:chkR r=0
 case neg=>rw[if_neg hr,if_neg hr];simp only[show((1:Int) !=0)=true from rfl,zaO];rfl
 rw[if_pos hr,if_pos hr]
 cases hso:zf4 s.c n with
 |none=>simp only[show((4:Int) !=0)=true from rfl,zaO];rfl
 |some x =>
   obtain⟨hx,hxn⟩:=zrc hso;subst hxn;obtain⟨k,p,c,hk,hc,_⟩:=hs.script x hx;have hpk:=(zfb hk).1;have hok:=hs.schemes k p c hpk hc;have hpo:zfA s x.j=some (k,p):=by unfold zfA;rw[hso];exact hk
   have hmk:=zAN r s hs m hg x hx k p c hk hc;have hvp:=zFf (r:=r) (m:=m) hk;have hvl:=zJ3 (r:=r) hs (m:=m) (x:=x);simp only[zG];rw[hk];dsimp only;rw[hc,zbO];generalize hV:verdS r s m x=V at *;have loop:=zbW V (λi rest=>∀(out:aC) (a:Int),(out.length:Int)=i->out++rest.map (·.s)=V.map (·.s)->rest.foldl (λs v=>if v.xe<s then v.xe else s) a=stateL V->zpj s x.j (V,0) (List.map zah out) a i=some (zkC (if stateL V=3 then(3,sumT p.g c.v (V.map (·.s)),0)else(stateL V,0,0)))) ?_ ?_ [] 3 (by simp) rfl rfl
   .exact loop
   . intro out a ho hout ha;have ha':a=stateL V:=ha;have hout':out=V.map (·.s):=by simpa using hout
     subst ha';refine zx7 ?_;simp(disch:=omega)only[zH];by_cases h3:stateL V=3
     .rw[if_pos h3];simp(disch:=omega)only[za,zR,zG,h3,zl4 s x.j (show s.c.length<=1000000 by omega) (show s.u.length<=1000000 by omega),hpo,ixR,zgf,zeM,hpk,zae,zkB,hc];rw[zaz (by simp)];simp only[zKx p c out (hs.short c (zav hc)) hok (by omega) (by rw[hout'];exact hmk),zkS];rw[hout'];rfl
     .rw[if_neg h3];simp only[show(stateL V !=3)=true by simpa using h3,zaO];rfl
   .intro i hi rest _ ih out a ho hout ha;refine zx7 ?_;simp(disch:=omega)only[zI,znn,zaa hi,zbp,zdL zah];exact ih (out++[V[i].s]) (if V[i].xe<a then V[i].xe else a) (by simp;omega) (by rw[zcp,zee];exact hout) ha
abbrev Notes:=List (Int×List zcj)
def zdn(n:Notes)(sc:Int):List zcj:=(mfind sc n).getD []
structure NoteR(n:Notes)(noted:ae):Prop where
 look:∀sc pa,noteOf (zdn n sc) pa=mfind ⟨sc,pa⟩ noted
 once:∀sc,((zdn n sc).map (·.xc)).Nodup
structure WR(l:aA)(mk:Nat)(i:Nat)(d:zaF)(good:zbf)(first:Bool)(begin:Nat)(out:List zcb)(w:zck)(void:aP)(n:Notes):Prop where
 out:out=d.d
 wat:w=d.watch
 first:first=!d.some
 good:good=if d.some then d.good else d.l
 vlen:void.length=l.length
 from_:∀x∈d.marks,x.G∈l.take i/\x.G.r=0/\x.G.a.b.toNat=mk
 vd:∀x∈d.marks,∀k:Nat,l[k]?=some x.G->void[k]?=some x.xf
 late:∀k:Nat,i<=k->k<l.length->void[k]?=some false
 per:∀(j:Nat) (x:zcq) (k:Nat),d.marks[j]?=some x->l[k]?=some x.G->(d.period<=(j:Int)↔begin<=k)
 beg:d.d≠[]->d.watch.p=false->∃e,l[begin]?=some e/\e.r=1/\d.l=e.a
 notes:d.watch.p=false->NoteR n d.R
 bi:begin<=i
 plen:d.period<=(d.marks.length:Int)
section
variable{l:aA}{mk i:Nat}{d:zaF}{good:zbf}{first:Bool}{begin:Nat}{out:List zcb}{w:zck}{void:aP}{n:Notes}
def pl_inj(ha:l.Pairwise (λa b=>lessS a.a b.a=true)){j k:Nat}{e:zad}(h1:l[j]?=some e)(h2:l[k]?=some e):j=k:=by
 obtain⟨a1,a2⟩:=zao.1 h1;obtain⟨b1,b2⟩:=zao.1 h2;have hp:=zcn.1 ha;rcases zia j k with h|h|h
 .have:=hp j k a1 b1 h;rw[a2,b2,zsY]at this;cases this
 .exact h
 .have:=hp k j b1 a1 h;rw[a2,b2,zsY]at this;cases this
def pl_less(ha:l.Pairwise (λa b=>lessS a.a b.a=true)){j k:Nat}{e f:zad}(h1:l[j]?=some e)(h2:l[k]?=some f)(h:j<k):lessS e.a f.a=true:=by obtain⟨a1,rfl⟩:=zao.1 h1;obtain⟨b1,rfl⟩:=zao.1 h2;exact zcn.1 ha j k a1 b1 h
def zDv(ha:l.Pairwise (λa b=>lessS a.a b.a=true)){k:Nat}{e:zad}(h1:l[k]?=some e)(h2:e∈l.take i):k<i:=by
 obtain⟨j,hj⟩:=zce h2;rw[zcx]at hj;split at hj
 .rename_i hlt;rw[pl_inj ha h1 hj];exact hlt
 .cases hj
def WR.zero(lv:Int):WR l mk 0 (desk0 lv) ⟨0,0,0⟩ true 0 [] ⟨[],false⟩ (List.replicate l.length false) [] where
 out:=rfl
 wat:=rfl
 first:=rfl
 good:=rfl
 vlen:=by simp
 from_:=by simp[desk0]
 vd:=by simp[desk0]
 late:=λk _ hk=>by simp_all
 per:=by simp[desk0]
 beg:=λh=>absurd rfl h
 notes:=λ_=>⟨λsc pa=>by simp[zdn,noteOf,mfind,desk0],λsc=>by simp[zdn,mfind]⟩
 bi:=zaW _
 plen:=by simp[desk0]
def WR.skip(h:WR l mk i d good first begin out w void n):WR l mk (i+1) d good first begin out w void n:=
 { h with
   from_:=λx hx=>⟨zel (l:=l.take (i+1)) (i:=i) (by rw[List.take_take,zfM (by omega)];exact(h.from_ x hx).1),(h.from_ x hx).2⟩
   late:=λk hk=>h.late k (by omega)
   bi:=by have:=h.bi;omega }
def WR.R(h:WR l mk i d good first begin out w void n)(hs:d.watch.p=true)(no:ae):WR l mk i { d with R:=no } good first begin out w void n:=
 { h with notes:=λhn=>by simp_all }
def WR.flag(ha:l.Pairwise (λa b=>lessS a.a b.a=true))(h:WR l mk i d good first begin out w void n)(b:Bool):WR l mk (i+1) d good first begin out w (void.set i b) n:=
 { h.skip with
   vlen:=by rw[zfo];exact h.vlen
   vd:=λx hx k hk=>by have:=zDv ha hk (h.from_ x hx).1;rw[zdS (by omega)];exact h.vd x hx k hk
   late:=λk hk hl=>by
    rw[zdS (by omega)]
    exact h.late k (by omega) hl }
def WR.mark(ha:l.Pairwise (λa b=>lessS a.a b.a=true))(h:WR l mk i d good first begin out w void n){e:zad}(he:l[i]?=some e)(hk:e.r=0)(hm:e.a.b.toNat=mk)(b:Bool):WR l mk (i+1) { d with marks:=d.marks++[⟨e,b⟩] } good first begin out w (void.set i b) n:=by
 have h':=h.flag ha b;have hil:i<l.length:=(zao.1 he).1;refine{ h' with from_:=λx hx=>?_,vd:=λx hx k hk=>?_,per:=λj x k hj hk=>?_,plen:=?_ }
 . rcases zbo.1 hx with hx|hx
   .exact h'.from_ x hx
   .rw[zcH.1 hx];exact⟨zav (i:=i) (by simp_all),hk,hm⟩
 . rcases zbo.1 hx with hx|hx
   .exact h'.vd x hx k hk
   .rw[zcH.1 hx]at hk ⊢;have:=pl_inj ha hk he;subst this;rw[zeS (by rw[h.vlen];exact hil)]
 . by_cases hjl:j<d.marks.length
   .rw[zdP hjl]at hj;exact h.per j x k hj hk
   . rw[zgJ (by omega)]at hj
     have h0:j-d.marks.length=0:=by have:=(zao.1 hj).1;simp at this;omega
     rw[h0]at hj;simp only[zb3,zaj]at hj;rw[<-hj]at hk;have:=pl_inj ha hk he;have h1:=h.plen;have h2:=h.bi;simp only;omega
 . have:=h.plen
   grind
def WR.rein(h:WR l mk i d good first begin out w void n)(ha:l.Pairwise (λa b=>lessS a.a b.a=true)){e:zad}(he:l[i]?=some e)(hk:e.r=1)(hs:d.watch.p=true):WR l mk (i+1) (reinS e.a d) e.a true i (out.modify (out.length-1) λx=>{ x with xk:=true,xg:=e.a }) ⟨[],false⟩ void []:=by
 unfold reinS;rw[if_pos hs];have h':=h.skip;refine{ out:=by rw[h.out],wat:=rfl,first:=rfl,good:=rfl,vlen:=h.vlen,from_:=h'.from_,vd:=h.vd,late:=h'.late,per:=λj x k hj hk=>?_,beg:=λ_ _=>⟨e,he,hk,rfl⟩,notes:=λ_=>?_,bi:=by omega,plen:=by simp }
 . have h1:=(zao.1 hj).1;have h2:=zDv ha hk (h.from_ x (zav hj)).1
   grind
 .exact⟨λsc pa=>by simp[zdn,noteOf,mfind],λsc=>by simp[zdn,mfind]⟩
def zK5(c:List zcj)(x:zcj)(p:Int):noteOf (c++[x]) p=match noteOf c p with|some v=>some v|none=>if x.xc=p then some x.value else none:=by
 unfold noteOf
 grind
def zNh{c:List zcj}{p:Int}:noteOf c p=none↔p ∉ c.map (·.xc):=by
 unfold noteOf
 simp_all
def NoteR.put{noted:ae}(h:NoteR n noted){sc pa v:Int}(hn:mfind ⟨sc,pa⟩ noted=none):NoteR (mput sc (zdn n sc++[⟨pa,v⟩]) n) (mput ⟨sc,pa⟩ v noted):=by
 have hne:noteOf (zdn n sc) pa=none:=by rw[h.look];exact hn
 constructor
 . intro sc' pa';by_cases hs:sc'=sc
   . subst hs
     have e:zdn (mput sc' (zdn n sc'++[⟨pa,v⟩]) n) sc'=zdn n sc'++[⟨pa,v⟩]:=by show(mfind sc' (mput sc' _ n)).getD []=_;rw[zdA];rfl
     rw[e,zK5];by_cases hp:pa'=pa
     .subst hp;rw[hne,zdA,if_pos rfl]
     . rw[zd3 _ (λq=>hp (by injection q)),<-h.look]
       grind
   . have e:zdn (mput sc (zdn n sc++[⟨pa,v⟩]) n) sc'=zdn n sc':=by show(mfind sc' (mput sc _ n)).getD []=_;rw[zd3 _ hs];rfl
     rw[e,zd3 _ (λq=>hs (by injection q)),h.look]
 . intro sc';by_cases hs:sc'=sc
   . subst hs
     have e:zdn (mput sc' (zdn n sc'++[⟨pa,v⟩]) n) sc'=zdn n sc'++[⟨pa,v⟩]:=by show(mfind sc' (mput sc' _ n)).getD []=_;rw[zdA];rfl
     rw[e];simp only[zbS];refine zkx.2 ⟨h.once sc',by simp,?_⟩;intro a h1 b h2 hab;simp only[zbX,zdH,zcH]at h2;subst hab h2;exact zNh.1 hne h1
   . have e:zdn (mput sc (zdn n sc++[⟨pa,v⟩]) n) sc'=zdn n sc':=by show(mfind sc' (mput sc _ n)).getD []=_;rw[zd3 _ hs];rfl
     rw[e];exact h.once sc'
def VoidTo(l:aA)(mk:Nat)(good:zbf)(one:Bool)(begin i:Nat)(void void':aP):Prop:=
 void'.length=void.length/\∀(k:Nat) (e:zad),l[k]?=some e->void'[k]?=(void[k]?).map λb=>if begin<=k/\k<=i then b||(e.r==0&&e.a.b==(mk:Int)&&(one||lessS good e.a))else b
def WR.susp(h:WR l mk i d good first begin out w void n)(ha:l.Pairwise (λa b=>lessS a.a b.a=true))(hsrc:∀e∈l,0<=e.a.b){e:zad}(hw:d.watch.p=false){w':zck}(hw':w'.p=true)(no:ae)(n':Notes){void':aP}
  (hv:VoidTo l mk good (first&&decide (out=[])) begin i void void'):WR l mk (i+1) (suspS (mk:Int) e.a { d with R:=no,watch:=w' }) good first begin (out++[⟨mk,good,e.a,⟨0,0,0⟩,first,false⟩]) w' void' n':=by
 obtain⟨v1,v2⟩:=hv;have h':=h.skip;unfold suspS;simp only;have hg:=h.good;have hf:=h.first;rw[<-hg,<-hf]
 have cond:∀(j:Nat) (x:zcq) (k:Nat),d.marks[j]?=some x->l[k]?=some x.G->(voidIf d.period first good j x).xf=(if begin<=k/\k<=i then x.xf||(x.G.r==0&&x.G.a.b==(mk:Int)&&((first&&decide (out=[]))||lessS good x.G.a))else x.xf):=by
  intro j x k hj hk;have hm:=zav hj;obtain⟨m1,m2,m3⟩:=h.from_ x hm;have hki:=zDv ha hk m1;have hper:=h.per j x k hj hk;have hs0:=hsrc x.G (zav hk);rw[show(x.G.r==0)=true by simpa using m2,show(x.G.a.b==(mk:Int))=true by grind];simp only[zcy];unfold voidIf;by_cases hb:begin<=k
  . rw[if_pos (show begin<=k/\k<=i by omega)];have hp:=hper.2 hb
    have same:((first&&decide (out=[]))||lessS good x.G.a)=(first||lessS good x.G.a):=by
     by_cases ho:out=[]
     .simp[ho]
     . rw[decide_eq_false ho,zeq,zc8]
       cases hfs:first with
       |false=>rfl
       |true =>
         rw[Bool.true_or];obtain⟨e0,b1,b2,b3⟩:=h.beg (λq=>ho (by rw[h.out];exact q)) hw;have hsome:d.some=false:=by rw[hfs]at hf;simpa using hf.symm
         rw[hsome,iNs]at hg;rw[hg,b3];refine pl_less ha b1 hk ?_
         grind
    grind
  .grind
 have ev:∀(j:Nat) (x':zcq),(d.marks.mapIdx (voidIf d.period first good))[j]?=some x'->∃x,d.marks[j]?=some x/\x'=voidIf d.period first good j x:=by
  intro j x' hj;rw[zeH]at hj
  cases hm:d.marks[j]? with
  |none=>grind
  |some x=>simp_all
 refine{ out:=by rw[h.out],wat:=rfl,first:=hf,good:=hg,vlen:=by rw[v1];exact h.vlen,from_:=λx' hx=>?_,vd:=λx' hx k hk=>?_,late:=λk hk hl=>?_,per:=λj x' k hj hk=>?_,beg:=λ_ hh=>?_,notes:=λhh=>?_,bi:=h'.bi,plen:=by simpa using h.plen }
 .obtain⟨j,hj⟩:=zce hx;obtain⟨x,q1,rfl⟩:=ev j x' hj;rw[zqc];exact h'.from_ x (zav q1)
 .obtain⟨j,hj⟩:=zce hx;obtain⟨x,q1,rfl⟩:=ev j x' hj;rw[zqc]at hk;rw[v2 k _ hk,h.vd x (zav q1) k hk,zbk,cond j x k q1 hk]
 .rw[v2 k _ (zaa hl),h.late k (by omega) hl,zbk,iNQ]
 .obtain⟨x,q1,rfl⟩:=ev j x' hj;rw[zqc]at hk;exact h.per j x k q1 hk
 .simp_all
 simp_all
def WR.noteN(h:WR l mk i d good first begin out w void n){no:ae}{n':Notes}(hn:NoteR n' no):WR l mk (i+1) { d with R:=no } good first begin out w void n':=
 { h.skip with notes:=λ_=>hn }
def WR.step(h:WR l mk i d good first begin out w void n)(hw:d.watch.p=false){w':zck}{no:ae}{n':Notes}(hn:NoteR n' no):WR l mk (i+1) { d with R:=no,watch:=w' } good first begin out w' void n':=
 { h.skip with
   wat:=rfl
   beg:=λa _=>h.beg a hw
   notes:=λ_=>hn }
def WR.fine(h:WR l mk i d good first begin out w void n)(hw:d.watch.p=false){w':zck}{no:ae}{n':Notes}(hn:NoteR n' no)(g:zbf):WR l mk (i+1) { d with R:=no,watch:=w',good:=g,some:=true } g false begin out w' void n':=
 { h.skip with
   wat:=rfl
   first:=rfl
   good:=rfl
   beg:=λa _=>h.beg a hw
   notes:=λ_=>hn }
def Oth(l:aA)(mk:Nat)(void:aP):Prop:=∀(k:Nat) (e:zad),l[k]?=some e->e.a.b≠(mk:Int)->void[k]?=some false
def Oth.zero(l:aA)(mk:Nat):Oth l mk (List.replicate l.length false):=λk e hk _=>by grind
def Oth.set(h:Oth l mk void){e:zad}(he:l[i]?=some e)(hs:e.a.b=(mk:Int))(b:Bool):Oth l mk (void.set i b):=λk f hk hf=>by
 by_cases hki:i=k
 .simp_all
 .rw[zdS hki];exact h k f hk hf
def Oth.voidTo(h:Oth l mk void){void':aP}{one:Bool}(hv:VoidTo l mk good one begin i void void'):Oth l mk void':=λk e hk he=>by rw[hv.2 k e hk,h k e hk he,zbk,show(e.a.b==(mk:Int))=false by simpa using he,zeq,zcU,zfc];split<;>rfl
def dE_other{s:zam}{d:zaF}{e:zad}(h:¬(e.r=1/\e.q.toNat=mk))(h2:¬(e.r=0/\e.a.b.toNat=mk)):deskE s mk d e=d:=by
 unfold deskE
 simp_all
def dE_rein{s:zam}{d:zaF}{e:zad}(h:e.r=1)(h2:e.q.toNat=mk):deskE s mk d e=reinS e.a d:=by
 unfold deskE
 grind
def dE_mark{s:zam}{d:zaF}{e:zad}(h:e.r=0)(h2:e.a.b.toNat=mk):deskE s mk d e=match fitS s e with
  |some q=>(match seedS s e.h,s.u[q]? with
    |some sd,some p=>noteS s p sd e d
    |none,_=>{ d with marks:=d.marks++[⟨e,d.watch.p⟩] }
    |_,_=>d)
  |none=>d:=by
 unfold deskE
 grind
end
def fits_iff{s:zam}(hs:zb2 s){e:zad}(hk:e.r=0):dec (FitsE s e)=(fitS s e).isSome:=by
 symm;refine zf1 ?_;constructor
 . intro h;obtain⟨q,hq⟩:=zaN.1 h;obtain⟨x,p,y,h1,h2,h3,h4,h5,h6,h7,h8⟩:=zr7 hq;refine⟨x,h1,hk,zGf.1 h2,q,p,y,h3,h4,h5,h6,?_,h8⟩;have hy:=((hs.okPaper (zfb h3).1).2.2.2.1 y (zav h5)).1.1;unfold permB at h7
   grind
 . rintro⟨x,h1,_,h2,q,p,y,h3,h4,h5,h6,h7,h8⟩
   unfold fitS;rw[h1];simp only;rw[if_pos (zGf.2 h2),h3];simp only;rw[if_pos h4,h5];simp only
   have hpb:permB y e.s=true:=by
    unfold permB;rw[if_neg (show¬y.r=2 by omega)];split
    .rfl
    .grind
   simp_all
def deskOk_E{s:zam}(hs:zb2 s){mk k:Nat}{d:zaF}(h:DeskOk s.H k d)(e:zad):DeskOk s.H (k+1) (deskE s mk d e):=by
 unfold deskE;split
 . split
   .exact h.rein hs.monitor _
   .exact h.up
 . split
   . split
     . split
       .exact h.note rfl _ _ _
       .exact h.app _
       .exact h.up
     .exact h.up
   .exact h.up
def noteS_susp{s:zam}{p:zaQ}{sd:GSeed}{e:zad}{d:zaF}(hs:d.watch.p=true):∃no,noteS s p sd e d={ d with R:=no }:=by
 unfold noteS;simp only[hs,if_true];split
 .exact⟨_,rfl⟩
 . split
   .exact⟨_,rfl⟩
   .exact⟨_,rfl⟩
def seedOf_S{s:zam}{n:Int}:seedS s n=(seedOf s.E n).map (·.2):=rfl
def QX(l:aA)(mk:Nat)(D:zaF):AV×Mem->Prop:=λy=>∃void:List Bool,y=zoQ (D.d,void)/\void.length=l.length/\Oth l mk void/\∀x∈D.marks,∀k:Nat,l[k]?=some x.G->void[k]?=some x.xf
structure WX(s:zam)(l:aA)(mk:Nat)(D:zaF)(i:Nat)(d:zaF)(good:zbf)(first:Bool)(begin:Nat)(out:List zcb)(w:zck)(void:aP)(n:Notes):Prop where
 wr:WR l mk i d good first begin out w void n
 oth:Oth l mk void
 ok:DeskOk s.H i d
 rest:(l.drop i).foldl (deskE s mk) d=D
 nlen:∀q∈n,q.2.length<=i
section
variable{s:zam}{l:aA}{mk:Nat}{D:zaF}{i:Nat}{d:zaF}{good:zbf}{first:Bool}{begin:Nat}{out:List zcb}{w:zck}{void:aP}{n:Notes}
def WX.next(hs:zb2 s)(h:WX s l mk D i d good first begin out w void n)(hi:i<l.length){good':zbf}{first':Bool}{begin':Nat}{out':List zcb}{w':zck}{void':aP}{n':Notes}
  {d':zaF} (hd:deskE s mk d l[i]=d') (wr:WR l mk (i+1) d' good' first' begin' out' w' void' n') (oth:Oth l mk void') (nl:∀q∈n',q.2.length<=i+1):WX s l mk D (i+1) d' good' first' begin' out' w' void' n':=
 ⟨wr,oth,hd▸deskOk_E hs h.ok _,by
  have:=h.rest;rw[zbe hi,zcG,hd]at this
  exact this,nl⟩
def WX.skip(hs:zb2 s)(h:WX s l mk D i d good first begin out w void n)(hi:i<l.length)(hd:deskE s mk d l[i]=d):WX s l mk D (i+1) d good first begin out w void n:=
 h.next hs hi hd h.wr.skip h.oth (λq hq=>by have:=h.nlen q hq;omega)
def WX.late(h:WX s l mk D i d good first begin out w void n)(hi:i<l.length):void.set i false=void:=by have h1:=h.wr.late i (zaW _) hi;obtain⟨h2,h3⟩:=zao.1 h1;rw[<-h3];exact List.set_getElem_self h2
def VoidJ(l:aA)(mk:Nat)(good:zbf)(one:Bool)(begin j:Nat)(void void':aP):Prop:=
 void'.length=void.length/\∀(k:Nat) (e:zad),l[k]?=some e->void'[k]?=(void[k]?).map λb=>if begin<=k/\k<j then b||(e.r==0&&e.a.b==(mk:Int)&&(one||lessS good e.a))else b
def VoidJ.zero(l:aA)(mk:Nat)(good:zbf)(one:Bool)(begin:Nat)(void:aP):VoidJ l mk good one begin begin void void:=
 ⟨rfl,λk e _=>by grind⟩
def VoidJ.step{one:Bool}{j:Nat}{void':aP}(h:VoidJ l mk good one begin j void void')(hb:begin<=j){e:zad}(he:l[j]?=some e)(hj:j<void'.length):VoidJ l mk good one begin (j+1) void (void'.set j (void'[j]||(e.r==0&&e.a.b==(mk:Int)&&(one||lessS good e.a)))):=
 ⟨by rw[zfo];exact h.1,λk f hk=>by
  by_cases hkj:j=k
  . subst hkj;rw[he]at hk;injection hk with hk;subst hk;have h2:=h.2 j e he;rw[zaa hj]at h2;rw[zeS hj]
    cases hv:void[j]? with
    |none=>grind
    |some b=>simp_all
  . rw[zdS hkj,h.2 k f hk]
    grind⟩
def VoidJ.to{one:Bool}{void':aP}(h:VoidJ l mk good one begin (i+1) void void'):VoidTo l mk good one begin i void void':=
 ⟨h.1,λk e hk=>by
  rw[h.2 k e hk]
  grind⟩
def note_new{e:zad}{y:GSeed}{p:zaQ}(hw:d.watch.p=false)(hn:mfind ⟨e.h,e.x⟩ d.R=none):noteS s p y e d=match gather (mput ⟨e.h,e.x⟩ e.s d.R) e.h y.T p.g 0 [] []with
  |none=>{ d with R:=mput ⟨e.h,e.x⟩ e.s d.R }
  |some (a,b) =>
    if(stepW s.H d.watch (goodS s.H a b)).p then suspS e.a.b e.a { d with R:=mput ⟨e.h,e.x⟩ e.s d.R,watch:=stepW s.H d.watch (goodS s.H a b) }
    else if goodS s.H a b then{ d with R:=mput ⟨e.h,e.x⟩ e.s d.R,watch:=stepW s.H d.watch (goodS s.H a b),good:=e.a,some:=true }
    else{ d with R:=mput ⟨e.h,e.x⟩ e.s d.R,watch:=stepW s.H d.watch (goodS s.H a b) }:=by
 unfold noteS
 grind
def any_part{c:List zcj}{p:Int}:c.any (λx=>x.xc==p)=(noteOf c p).isSome:=by
 unfold noteOf
 grind
end
def watchX{s:zam}(hs:zb2 s){l:aA}(hl:l.length<=2000)(hv:∀e∈l,eventB e=true)(ha:l.Pairwise (λa b=>lessS a.a b.a=true)){mk:Nat}(hmk:1<=mk/\mk<=99)(D:zaF):∀(n i:Nat),i+n=l.length->∀(d:zaF) (good:zbf) (first:Bool) (begin:Nat) (out:List zcb) (w:zck) (void:aP) (notes:Notes) (ol:Nat),begin<=i->ol=out.length->WX s l mk D i d good first begin out w void notes->Sat (QX l mk D) (zfU s l mk (mF out) w (mW notes) good (List.map nBool void) ol first begin i):=by
 have hsd:=hs.seeds
 have hsrc:∀e∈l,0<=e.a.b:=λe he=>by
  have:=hv e he;unfold eventB at this
  grind
 intro n
 induction n with
 |zero =>
   intro i hi d good first begin out w void notes ol hb0 ho inv
   have hvl:=inv.wr.vlen;subst ho;refine sat_of (λy=>zx4) ?_;simp(disch:=omega)only[za,zH,zb0];rw[zaz (by simp),zaz (by simp;omega)];have hD:=inv.rest;rw[zcr (by omega)]at hD;subst hD;exact zrT ⟨void,by rw[inv.wr.out];rfl,hvl,inv.oth,inv.wr.vd⟩
 |succ n ih =>
   intro i hi d good first begin out w void notes ol hb0 ho inv
   have hvl:=inv.wr.vlen;subst ho;have hlt:i<l.length:=by omega
   have hltv:i<void.length:=by omega
   have hbi:=inv.wr.bi;have he:l[i]?=some l[i]:=zaa hlt;have hev:=hv _ (zau hlt)
   have hpl:l[i].A.length<=1000000:=by unfold eventB at hev;simp only[zU]at hev;omega
   have hkind:l[i].r=0->1<=l[i].a.b:=λh0=>by
    unfold eventB at hev
    simp_all
   have hkind1:l[i].r=1->1<=l[i].q:=λh0=>by
    unfold eventB at hev
    simp_all
   have hw0:d.watch.p=w.p:=by rw[inv.wr.wat]
   have hol:out.length<=i:=by rw[inv.wr.out];exact inv.ok.susp
   have hok:zoI s.H w:=by rw[inv.wr.wat];exact inv.ok.watch
   have go:∀(d:zaF) (good:zbf) (first:Bool) (begin:Nat) (out:List zcb) (w:zck) (void:aP) (notes:Notes) (ol:Nat),begin<=i+1->ol=out.length->WX s l mk D (i+1) d good first begin out w void notes->Sat (QX l mk D) (zfU s l mk (mF out) w (mW notes) good (List.map nBool void) ol first begin (w64 ((i:Int)+1))):=by
    intro d good first begin out w void notes ol hb0 ho inv
    rw[w6Q];exact ih (i+1) (by omega) d good first begin out w void notes ol hb0 ho inv
   have m1029:∀(w':zck) (notes':Notes) (no:ae) (r:Bool×Bool),w.p=false->l[i].r=0->l[i].a.b=(mk:Int)->NoteR notes' no->(∀q∈notes',q.2.length<=i+1)->deskE s mk d l[i]=(if w'.p then suspS l[i].a.b l[i].a { d with R:=no,watch:=w' }else if r.2 then{ d with R:=no,watch:=w',good:=l[i].a,some:=true }else{ d with R:=no,watch:=w' })->Sat (QX l mk D) (zpY s l mk (mF out) good (List.map nBool void) out.length first begin i l[i] (mW notes') r (w',0)):=by
    intro w' notes' no r hws hk0 hsr hnr hn' hdE;have hws':d.watch.p=false:=hw0.trans hws
    have loop:∀(m:Nat) (j:Nat) (void':aP),w'.p=true->begin<=j->j+m=i+1->VoidJ l mk good (first&&decide (out=[])) begin j void void'->Sat (QX l mk D) (zpi s l mk (mF out) good (List.map nBool void) out.length first begin i l[i] (mW notes') r (w',0) (List.map nBool void') j):=by
     intro m
     induction m with
     |zero=>intro j void' hsus hj hjm hv';refine sat_of (λy=>zx6) ?_;rw[zaH (by omega)];refine sat_of (λy=>zBd) ?_;simp only[zdL zaA];rw[show j=i+1 by omega]at hv';have hvt:=hv'.to;rw[hsus,if_pos rfl,hsr]at hdE;exact go _ _ _ _ _ _ _ _ _ (by omega) (by simp) (inv.next hs hlt hdE (inv.wr.susp ha hsrc hws' hsus no notes' hvt) (inv.oth.voidTo hvt) hn')
     |succ m ih3 =>
       intro j void' hsus hj hjm hv';have hj1:j<l.length:=by omega
       have hj2:j<void'.length:=by have:=hv'.1;omega
       have m1033:∀(b:Bool),b=(void'[j]||(l[j].r==0&&l[j].a.b==(mk:Int)&&((first&&decide (out=[]))||lessS good l[j].a)))->Sat (QX l mk D) (zgx s l mk (mF out) good (List.map nBool void) out.length first begin i l[i] (mW notes') r (w',0) j (List.map nBool (void'.set j b))):=by intro b hb;refine sat_of (λy=>zDI) ?_;rw[w6Q,hb];exact ih3 (j+1) _ hsus (by omega) (by omega) (hv'.step hj (zaa hj1) hj2)
       have hone:decide (out=[])=(((out.length+1:Nat):Int)==1):=by
        cases out with
        |nil=>rfl
        |cons x r=>grind
       refine sat_of (λy=>zx6) ?_;simp(disch:=omega)only[zF,zb0,zaR,zqk,zcB,zaa hj1,zaa hj2,zsw,zas,zf3 nBool,zby,zcA,zcN];rw[hone]at m1033;simp only[zeB]
       grind
    refine sat_of (λy=>zDH) ?_
    cases hsus:w'.p with
    |true=>simp(disch:=omega)only[zK,zaO,eq_self];exact loop (i+1-begin) begin void hsus (zaW _) (by omega) (VoidJ.zero _ _ _ _ _ _)
    |false =>
      simp only[zay];rw[hsus,iNs]at hdE
      cases hr:r.2 with
      |true=>simp only[zaO];rw[hr,if_pos rfl]at hdE;refine sat_of (λy=>zke) ?_;exact go _ _ _ _ _ _ _ _ _ (by omega) (by simp) (inv.next hs hlt hdE (inv.wr.fine hws' hnr _) inv.oth hn')
      |false=>simp only[zay];rw[hr,iNs]at hdE;refine sat_of (λy=>zBc) ?_;exact go _ _ _ _ _ _ _ _ _ (by omega) (by simp) (inv.next hs hlt hdE (inv.wr.step hws' hnr) inv.oth hn')
   have m1025:∀(q:Nat) (y:GSeed) (k:Nat) (p:zaQ),w.p=false->l[i].r=0->l[i].a.b=(mk:Int)->mfind (⟨l[i].h,l[i].x⟩:za1) d.R=none->seedOf s.E l[i].h=some (q,y)->zfA s l[i].h=some (k,p)->znk p y.T->deskE s mk d l[i]=noteS s p y l[i] d->Sat (QX l mk D) (zpX s l mk (mF out) w (mW notes) good (List.map nBool void) out.length first begin i l[i] (zdn notes l[i].h)):=by
    intro q y k p hsus hk0 hsr hnew hsd hk hm hdE;have hws':d.watch.p=false:=hw0.trans hsus;have hnr:=inv.wr.notes hws';have hput:=hnr.put (v:=l[i].s) hnew
    have hc:(zdn notes l[i].h).length<=i:=by
     unfold zdn
     cases hf:mfind l[i].h notes with
     |none=>simp
     |some v=>have:=inv.nlen _ (zjc hf);simpa using this
    refine sat_of (λy=>zDE) ?_;have hlen:(mQ (zdn notes l[i].h)++[[I l[i].x,I l[i].s]]).length=(zdn notes l[i].h).length+1:=by simp
    have htk:List.take ((zdn notes l[i].h).length+1) (mQ (zdn notes l[i].h)++[zcw ⟨l[i].x,l[i].s⟩])=mQ (zdn notes l[i].h++[⟨l[i].x,l[i].s⟩]):=by grind
    simp(disch:=omega)only[zK,hlen,htk,zyR]
    have hnn:∀q∈mput l[i].h (zdn notes l[i].h++[⟨l[i].x,l[i].s⟩]) notes,q.2.length<=i+1:=by
     intro q hq;rcases zmX hq with rfl|hq
     .simp;omega
     .have:=inv.nlen q hq;omega
    refine sat_of (λy=>zDF) ?_;simp only[zra];have hat:(mfind l[i].h (mput l[i].h (zdn notes l[i].h++[⟨l[i].x,l[i].s⟩]) notes)).getD []=zdn (mput l[i].h (zdn notes l[i].h++[⟨l[i].x,l[i].s⟩]) notes) l[i].h:=rfl
    have hlk:(zdn (mput l[i].h (zdn notes l[i].h++[⟨l[i].x,l[i].s⟩]) notes) l[i].h).length<=100000:=by unfold zdn;rw[zdA,zbO];unfold zdn at hc;simp;omega
    have ev:=c_judge s hs k p q y l[i].h _ hk hsd hm hlk (hput.once _);rw[zAJ (λpa=>hput.look l[i].h pa)]at ev;rw[note_new hws' hnew]at hdE;rw[hat,ev,zEj]
    cases hgt:gather (mput ⟨l[i].h,l[i].x⟩ l[i].s d.R) l[i].h y.T p.g 0 [] []with
    |none=>rw[hgt]at hdE;simp only[zW,judgeR];refine sat_of (λy=>zBb) ?_;exact go _ _ _ _ _ _ _ _ _ (by omega) (by simp) (inv.next hs hlt hdE (inv.wr.noteN hput) inv.oth hnn)
    |some ab=>obtain⟨xa,xb⟩:=ab;rw[hgt]at hdE;simp only[zO,judgeR];refine sat_of (λy=>zDG) ?_;simp only[zLT s.H w (goodS s.H xa xb) hs.monitor hok hsus,zwD];refine m1029 _ _ _ _ hsus hk0 hsr hput hnn ?_;rw[inv.wr.wat];exact hdE
   have m1019:∀(q:Nat) (y:GSeed) (k:Nat) (p:zaQ),w.p=false->l[i].r=0->l[i].a.b=(mk:Int)->seedOf s.E l[i].h=some (q,y)->zfA s l[i].h=some (k,p)->znk p y.T->deskE s mk d l[i]=noteS s p y l[i] d->Sat (QX l mk D) (zpW s l mk (mF out) w (mW notes) good (List.map nBool void) out.length first begin i l[i]):=by
    intro q y k p hsus hk0 hsr hsd hk hm hdE;have hws':d.watch.p=false:=hw0.trans hsus;have hnr:=inv.wr.notes hws';refine sat_of (λy=>zDD) ?_;simp only[zra];have hat:(mfind l[i].h notes).getD []=zdn notes l[i].h:=rfl;rw[hat]
    have hc:(zdn notes l[i].h).length<=i:=by
     unfold zdn
     cases hf:mfind l[i].h notes with
     |none=>simp
     |some v=>have:=inv.nlen _ (zjc hf);simpa using this
    refine zbW (zdn notes l[i].h) (λj r=>∀b:Bool,(b||r.any λx=>x.xc==l[i].x)=(zdn notes l[i].h).any (λx=>x.xc==l[i].x)->Sat (QX l mk D) (zmw s l mk (mF out) w (mW notes) good (List.map nBool void) out.length first begin i l[i] (zdn notes l[i].h) b j)) ?_ ?_ false (zc8 _)
    . intro b hb;refine sat_of (λy=>zx5) ?_;rw[zac,zaH (by omega)];rw[zkf,zfc,any_part,hnr.look]at hb
      cases b with
      |true=>simp only[zaO];refine sat_of (λy=>zBa) ?_;exact go _ _ _ _ _ _ _ _ _ (by omega) (by simp) (inv.skip hs hlt (by rw[hdE];unfold noteS;rw[if_pos hb.symm]))
      |false=>simp_all
    . intro j hj r _ ih2 b hb;refine sat_of (λy=>zx5) ?_;rw[zac,zaB (by omega),cPQ,zaf,zqR,zaa hj,zae,w6Q];rw[zfd,<-zjQ]at hb
      cases b with
      |true=>rw[zaO];grind
      |false=>rw[zay];grind
   have m1014:¬(l[i].r=1/\l[i].q=(mk:Int)/\w.p=true)->Sat (QX l mk D) (zj8 s l mk (mF out) w (mW notes) good (List.map nBool void) out.length first begin i l[i]):=by
    intro hne
    have stay:deskE s mk d l[i]=d->Sat (QX l mk D) (zk1 s l mk (mF out) w (mW notes) good (List.map nBool void) out.length first begin i l[i]):=λhd=>sat_of (λy=>zA8) (go _ _ _ _ _ _ _ _ _ (by omega) (by simp) (inv.skip hs hlt hd))
    have quiet:¬(l[i].r=0/\l[i].a.b=(mk:Int))->deskE s mk d l[i]=d:=λh0=>by
     by_cases h1:l[i].r=1/\l[i].q.toNat=mk
     . have h2:=hkind1 h1.1;rw[dE_rein h1.1 h1.2];unfold reinS
       grind
     .exact dE_other h1 (λq=>h0 ⟨q.1,by omega⟩)
    refine sat_of (λy=>zDA) ?_;by_cases hk0:l[i].r=0
    case neg =>
     rw[show(l[i].r !=0)=true by simpa using hk0,zaO]
     simp_all
    rw[show(l[i].r !=0)=false by simpa using hk0,zay];by_cases hsr:l[i].a.b=(mk:Int)
    case neg =>
     rw[show(l[i].a.b !=(mk:Int))=true by simpa using hsr,zaO]
     simp_all
    rw[show(l[i].a.b !=(mk:Int))=false by simpa using hsr,zay];have hdm:deskE s mk d l[i]=_:=dE_mark hk0 (by omega);refine sat_of (λy=>zDB) ?_
    cases hsus:w.p with
    |true =>
      simp(disch:=omega)only[za,zaO,zac,zb0,zaR,zqk,zaa hltv,zae,zf3 nBool];have hws':d.watch.p=true:=hw0.trans hsus;have hnl:∀q∈notes,q.2.length<=i+1:=λq hq=>by have:=inv.nlen q hq;omega
      have flag:deskE s mk d l[i]=d->Sat (QX l mk D) (zj7 s l mk out.length i (mF out) w (mW notes) good (List.map nBool (void.set i true)) first begin):=λhd=>by refine sat_of (λy=>zke) ?_;exact go _ _ _ _ _ _ _ _ _ (by omega) (by simp) (inv.next hs hlt hd (inv.wr.flag ha true) (inv.oth.set he hsr true) hnl)
      cases hf:fitS s l[i]with
      |none=>simp_all
      |some q =>
        rw[hf]at hdm;simp only at hdm
        cases hsd:seedS s l[i].h with
        |none=>rw[hsd]at hdm;simp only[hws']at hdm;refine sat_of (λy=>zke) ?_;exact go _ _ _ _ _ _ _ _ _ (by omega) (by simp) (inv.next hs hlt hdm (inv.wr.mark ha he hk0 (by omega) true) (inv.oth.set he hsr true) hnl)
        |some sd =>
          rw[hsd]at hdm
          cases hp:s.u[q]? with
          |none=>simp_all
          |some p=>rw[hp]at hdm;simp only at hdm;obtain⟨no,hno⟩:=noteS_susp (s:=s) (p:=p) (sd:=sd) (e:=l[i]) hws';rw[hno]at hdm;refine sat_of (λy=>zke) ?_;exact go _ _ _ _ _ _ _ _ _ (by omega) (by simp) (inv.next hs hlt hdm ((inv.wr.flag ha true).R hws' no) (inv.oth.set he hsr true) hnl)
    |false =>
      rw[zay];have hws':d.watch.p=false:=hw0.trans hsus;refine sat_of (λy=>zDC) ?_;rw[zim s.E l[i].h (by omega) (zqE hs),zf0]
      have stay2:∀d',deskE s mk d l[i]=d'->WR l mk (i+1) d' good first begin out w void notes->Sat (QX l mk D) (zk2 s l mk (mF out) w (mW notes) good (List.map nBool void) out.length first begin i l[i]):=λd' hd hwr=>sat_of (λy=>zA9) (go _ _ _ _ _ _ _ _ _ (by omega) (by simp) (inv.next hs hlt hd hwr inv.oth (λq hq=>by have:=inv.nlen q hq;omega)))
      cases hq:seedOf s.E l[i].h with
      |none =>
        simp only[zW,seedR];have hsS:seedS s l[i].h=none:=by rw[seedOf_S,hq];rfl
        cases hf:fitS s l[i]with
        |none=>rw[hf]at hdm;exact stay2 _ hdm inv.wr.skip
        |some q=>rw[hf]at hdm;simp only at hdm;rw[hsS]at hdm;simp only[hws']at hdm;have hm:=inv.wr.mark ha he hk0 (by omega) false;rw[inv.late hlt]at hm;exact stay2 _ hdm hm
      |some qy =>
        obtain⟨q,y⟩:=qy;have hsS:seedS s l[i].h=some y:=by rw[seedOf_S,hq];rfl
        simp only[zO,seedR,zCO s hs l[i] hs.short2 hpl,zas,fits_iff hs hk0]
        cases hf:fitS s l[i]with
        |none=>simp only[zW,zeJ];rw[hf]at hdm;exact stay2 _ hdm inv.wr.skip
        |some k =>
          simp only[zO,zdd];obtain⟨x,p,y',f1,_,f3,_⟩:=zr7 hf;have hpk:=(zfb f3).1;rw[hf]at hdm;simp only at hdm;rw[hsS,hpk]at hdm;simp only at hdm;have hpo:zfA s l[i].h=some (k,p):=by unfold zfA;rw[f1];exact f3
          obtain⟨k',p',g1,g2⟩:=zIf hs hq
          simp_all
   refine sat_of (λy=>zx4) ?_;rw[zac,zaB (by omega),cPQ,zaf,zcB,he,zae];by_cases hk1:l[i].r=1
   case neg =>
    rw[show(l[i].r==1)=false by simpa using hk1,zay]
    simp_all
   rw[show(l[i].r==1)=true by simpa using hk1,zaO];by_cases hmr:l[i].q=(mk:Int)
   case neg =>
    rw[show(l[i].q==(mk:Int))=false by simpa using hmr,zay]
    simp_all
   rw[show(l[i].q==(mk:Int))=true by simpa using hmr,zaO]
   cases hsus:w.p with
   |false=>simp_all
   |true =>
     have hws':d.watch.p=true:=hw0.trans hsus;have hon:0<out.length:=by rw[inv.wr.out];exact inv.ok.some hws'
     have hoe:((out.length:Int)-1).toNat=out.length-1:=by omega
     have hol2:out.length-1<out.length:=by omega
     have hwr:=inv.wr.rein ha he hk1 hws'
     have hmod:(out.modify (out.length-1) λx=>{ x with xk:=true,xg:=l[i].a })=out.set (out.length-1) { out[out.length-1]with xk:=true,xg:=l[i].a }:=by
      apply zc6;intro k;rw[List.getElem?_modify,zgh];by_cases hk:out.length-1=k
      .grind
      .simp_all
     rw[hmod]at hwr;simp(disch:=omega)only[zX,zK,zaO,hoe,zaR,zqQ,zaa hol2,zf3 zaA,zeS hol2,zfo,List.set_set];have hfin:=inv.next hs hlt (dE_rein hk1 (by omega)) hwr inv.oth (by simp);refine sat_of (λy=>zke) ?_;exact go _ _ _ _ _ _ _ [] _ (by omega) (by simp) hfin
def c_watch{s:zam}(hs:zb2 s){l:aA}(hl:l.length<=2000)(hv:∀e∈l,eventB e=true)(ha:l.Pairwise (λa b=>lessS a.a b.a=true)){mk:Nat}(hmk:1<=mk/\mk<=99)(lv:Int):∃void:List Bool,cw 115 [.agg (zap s),.sl 9 (mA l),I (mk:Int)] []=some (zoQ ((l.foldl (deskE s mk) (desk0 lv)).d,void))/\void.length=l.length/\Oth l mk void/\∀x∈(l.foldl (deskE s mk) (desk0 lv)).marks,∀k:Nat,l[k]?=some x.G->void[k]?=some x.xf:=by
 have H:Sat (QX l mk (l.foldl (deskE s mk) (desk0 lv))) (cw 115 [.agg (zap s),.sl 9 (mA l),I (mk:Int)] []):=by refine sat_of (λy=>zKT) ?_;simp(disch:=omega)only[zK,zaf,zwd nBool];exact watchX hs hl hv ha hmk _ l.length 0 (by omega) _ ⟨0,0,0⟩ true 0 [] ⟨[],false⟩ (List.replicate l.length false) [] 0 (zc4 _) rfl ⟨WR.zero lv,Oth.zero l mk,DeskOk.zero hs.monitor lv,rfl,by simp⟩
 obtain⟨y,e,v,rfl,h⟩:=H;exact⟨v,e,h⟩
def zDm{κ ν:Type}[DecidableEq κ](key:zad->κ)(val:zad->ν)(k:κ):∀(l:aA) (m:List (κ×ν)),mfind k (l.foldl (λm e=>mput (key e) (val e) m) m)=match(l.filter (λe=>decide (key e=k))).getLast? with
  |some e=>some (val e)
  |none=>mfind k m
 |[],m=>rfl
 |e::r,m=>by
   rw[zcG,zDm key val k r];rw[zbU];by_cases h:key e=k
   . rw[if_pos (by simpa using h),List.getLast?_cons,h,zdA]
     grind
   .rw[if_neg (by simpa using h),zd3 _ (λq=>h q.symm)]
def key3(e:zad):Int×Int×Int:=(e.h,e.x,e.a.b)
def keyG(g:za6):Int×Int×Int:=(g.h,g.x,g.q)
def seats_some{ms:aN}{m:zbh}(hm:m∈ms):∃d,seats ms m.ID.toNat=some d:=by
 have stay:∀(l:aN) (ds:Desks) (i:Nat),(∃d,ds i=some d)->∃d,(l.foldl (λds m=>upd ds m.ID.toNat (desk0 m.I)) ds) i=some d:=by
  intro l
  induction l with
  |nil=>intro ds i h;exact h
  |cons x r ih =>
    intro ds i h;refine ih _ i ?_;by_cases hi:i=x.ID.toNat
    .exact⟨_,by rw[hi];exact zud _ _ _⟩
    .obtain⟨d,hd⟩:=h;exact⟨d,(zu1 ds (desk0 x.I) hi).trans hd⟩
 have key:∀(l:aN) (ds:Desks),m∈l->∃d,(l.foldl (λds m=>upd ds m.ID.toNat (desk0 m.I)) ds) m.ID.toNat=some d:=by
  intro l
  induction l with
  |nil=>intro _ h;cases h
  |cons x r ih =>
    intro ds h;rcases za9.1 h with rfl|h
    .exact stay r _ _ ⟨_,zud _ _ _⟩
    .exact ih _ h
 exact key ms _ hm
def keepM(d:zaF)(R:Reop)(e:zad):Bool:=!(decide (d.N<2)&&reopB R e)
def zzy(d:zaF):List zad:=(d.marks.filter λx=>!x.xf).map (·.G)
def countS_eq(d:zaF)(R:Reop):countS d R=((zzy d).filter (keepM d R)).foldl (λm e=>mput (⟨e.h,e.x⟩:za1) e m) []:=by
 have key:∀(l:List zcq) (m:Counts),l.foldl (zhn d R) m=(((l.filter λx=>!x.xf).map (·.G)).filter (keepM d R)).foldl (λm e=>mput (⟨e.h,e.x⟩:za1) e m) m:=by
  intro l
  induction l with
  |nil=>intro m;rfl
  |cons x r ih =>
    intro m;rw[zcG,ih];unfold zhn
    cases hv:x.xf with
    |true=>simp_all
    |false =>
      rw[iNs,zbU,if_pos (show(!x.xf)=true by rw[hv];rfl)];simp only[zbX];rw[zbU];by_cases hk:d.N<2/\reopB R x.G=true
      .rw[if_pos hk,if_neg (by unfold keepM;simp[hk.1,hk.2])]
      . rw[if_neg hk,if_pos,zcG];unfold keepM
        grind
 exact key d.marks []
def living_asc{s:zam}{ev:aA}(ha:ev.Pairwise (λa b=>lessS a.a b.a=true)){i:Nat}{d:zaF}(h:(walkS s ev).1 i=some d):(zzy d).Pairwise (λa b=>lessS a.a b.a=true):=by
 have h1:(d.marks.map (·.G)).Pairwise (λa b=>lessS a.a b.a=true):=by rw[zv8 h];exact ha.filter _
 unfold zzy
 grind
def asc_unique{a b:aA}(h:∀e,e∈a↔e∈b)(ha:a.Pairwise (λa b=>lessS a.a b.a=true))(hb:b.Pairwise (λa b=>lessS a.a b.a=true)):a=b:=by
 have nd:∀l:List zad,l.Pairwise (λa b=>lessS a.a b.a=true)->l.Nodup:=λl hl=>hl.imp λ{x y} h q=>by rw[q,zsY]at h;cases h
 have hp:=(zcE (nd a ha) (nd b hb)).2 h;refine zlZ (lt:=λa b:zad=>lessS a.a b.a) hp (ha.imp λh=>zk5 h) (hb.imp λh=>zk5 h) ?_;intro x hx y hy h1 h2;obtain⟨i,hi,rfl⟩:=zbB.1 hx;obtain⟨j,hj,rfl⟩:=zbB.1 hy;have:=zcn.1 ha
 grind
structure PutG(l:aL)(x:za6)(r:aL):Prop where
 asc:r.Pairwise (λa b=>zci a b=true)
 mem:∀g,g∈r↔g=x\/(g∈l/\keyG g≠keyG x)
 len:r.length<=l.length+1
def zHT{a b c:za6}(h1:zci a b=true)(h2:zci b c=true):zci a c=true:=by
 unfold zci at *
 grind
def zEV(a:za6):zci a a=false:=by unfold zci;simp
def zEW{a b:za6}(h:keyG a=keyG b)(c:za6):zci a c=zci b c/\zci c a=zci c b:=by
 unfold keyG at h;simp only[zaC]at h;obtain⟨h1,h2,h3⟩:=h;unfold zci
 simp_all
def keyG_ne{a b:za6}(h:zci a b=true\/zci b a=true):keyG a≠keyG b:=λq=>by
 have:=zEW q b;rw[zEV]at this
 simp_all
def put_fin{l:aL}{x:za6}{a b:Nat}(hl:l.Pairwise (λa b=>zci a b=true))(hab:a<=b)(hbl:b<=a+1)(h1:∀(j:Nat) (g:za6),l[j]?=some g->j<a->zci g x=true)(h2:∀(j:Nat) (g:za6),l[j]?=some g->b<=j->zci x g=true)
  (h3:∀(j:Nat) (g:za6),l[j]?=some g->a<=j->j<b->keyG g=keyG x):PutG l x (l.take a++x::l.drop b):=by
 have t1:∀g∈l.take a,zci g x=true:=λg hg=>by
  obtain⟨j,hj⟩:=zce hg
  grind
 have t2:∀g∈l.drop b,zci x g=true:=λg hg=>by
  obtain⟨j,hj⟩:=zce hg
  grind
 refine⟨?_,λg=>?_,?_⟩
 . refine ze3.2 ⟨hl.sublist (zky _ _),zcQ.2 ⟨t2,hl.sublist (zkw _ _)⟩,λg hg f hf=>?_⟩;rcases za9.1 hf with rfl|hf
   .exact t1 g hg
   .exact zHT (t1 g hg) (t2 f hf)
 . rw[zbo,za9];constructor
   . rintro(h|rfl|h)
     .exact .inr ⟨zel h,keyG_ne (.inl (t1 g h))⟩
     .exact .inl rfl
     .exact .inr ⟨zgn h,keyG_ne (.inr (t2 g h))⟩
   . rintro(rfl|⟨h,hk⟩)
     .exact .inr (.inl rfl)
     . obtain⟨j,hj⟩:=zce h;by_cases ha:j<a
       .exact .inl (zav (i:=j) (by simp_all))
       by_cases hb:b<=j
       .exact .inr (.inr (zav (i:=j-b) (by simp_all)))
       grind
 grind
def zCP(a b:za6):cw 121 [.agg (zaE a),.agg (zaE b)] []=some (zat (zci a b)):=by
 refine zMi ?_;unfold zci;by_cases h1:a.h=b.h
 . by_cases h2:a.x=b.x
   .simp only[zG,h1,h2];simp[zat]
   .simp only[zG,h1,h2,show(a.x !=b.x)=true by simpa using h2,zaO];simp[h2,zat]
 .simp only[show(a.h !=b.h)=true by simpa using h1,zaO];simp[h1,zat]
def c_put{l:aL}(hl:l.length<=100000)(ha:l.Pairwise (λa b=>zci a b=true))(x:za6):∃r,cw 68 [.row 950 8 0 (List.length (mC l)),.agg (zaE x)] [(950,gF (mC l))]=some (zjY r)/\PutG l x r:=by
 let Q:AV×Mem->Prop:=λy=>∃r,y=zjY r/\PutG l x r
 suffices H:Sat Q (cw 68 [.row 950 8 0 (List.length (mC l)),.agg (zaE x)] [(950,gF (mC l))])by obtain⟨y,e,r,rfl,h⟩:=H;exact⟨r,e,h⟩
 have hp:=zcn.1 ha
 let Up:Nat->Prop:=λk=>∀(j:Nat) (g:za6),l[j]?=some g->k<=j->zci x g=true
 have m1007:∀k:Nat,k<=l.length->Up k->(∀(j:Nat) (g:za6),l[j]?=some g->j<k->zci g x=true)->Sat Q (zob l x k):=by
  intro k hk hup hlo;refine sat_of (λy=>zGE) ?_;have hraw:mC l++[[I x.h,I x.x,I x.q,I x.I,I x.s,I x.a.n,I x.a.b,I x.a.B]]=mC (l++[x]):=by(try simp only[<-zdL zaE]);rfl
  have hraw2:[I x.h,I x.x,I x.q,I x.I,I x.s,I x.a.n,I x.a.b,I x.a.B]=zaE x:=rfl;have hk1:((k:Int)+1).toNat=k+1:=by omega
  have hA:(l++[x]).length=l.length+1:=by simp
  simp(disch:=omega)only[zK,hraw,hraw2,zdL zaE,w64_id,hk1,zaf,zaR,hA,<-List.map_take,<-zhY,<-zbS,zf3 zaE,zfo];generalize hX:(List.take (k+1) (l++[x])++List.take (l.length+1-(k+1)) (List.take (l.length+1-k) (List.drop k (l++[x])))++List.drop (k+1+Min.min (List.take (l.length+1-k) (List.drop k (l++[x]))).length (l.length+1-(k+1))) (l++[x]))=X
  have hXl:X.length=l.length+1:=by rw[<-hX];simp only[zby,zdc,ze6,zcA,zcN];omega
  have hkX:k<X.length:=by omega
  have hfin:X.set k x=l.take k++x::l.drop k:=by
   have e1:(List.take (l.length+1-k) (List.drop k (l++[x]))).length=l.length+1-k:=by simp
   have e2:List.take (k+1) (l++[x])=l.take k++[(l++[x])[k]'(by simp;omega)]:=by rw[zbP (by simp;omega),zfY hk]
   have e3:List.take (l.length+1-(k+1)) (List.take (l.length+1-k) (List.drop k (l++[x])))=l.drop k:=by grind
   have e4:List.drop (k+1+Min.min (List.take (l.length+1-k) (List.drop k (l++[x]))).length (l.length+1-(k+1))) (l++[x])=[]:=zcr (by rw[e1];simp;omega);rw[<-hX,e2,e3,e4,zcu,zcp,List.set_append_right _ _ (by simp_all),zdc,zfM hk,Nat.sub_self];rfl
  simp(disch:=omega)only[zes,zaa hkX,zae,hXl,zbp,zar];rw[hfin];exact zrT ⟨_,rfl,put_fin ha (zaW _) (by omega) hlo hup (λj g hj h1 h2=>absurd h2 (by omega))⟩
 have m1004:∀k:Nat,k<=l.length->Up k->(∀g,0<k->l[k-1]?=some g->zci x g=false)->Sat Q (zoa l x k):=by
  intro k hk hup hlo;refine sat_of (λy=>zGD) ?_;by_cases h0:0<k
  . have hkl:k-1<l.length:=by omega
    have hk1:((k:Int)-1).toNat=k-1:=by omega
    have hlo':=hlo _ h0 (zaa hkl);simp(disch:=omega)only[zX,zaB,hk1,zaR,zac,zar,zes,zaa hkl,zCP,zas]
    have below:∀(j:Nat) (g:za6),l[j]?=some g->j<k-1->zci g l[k-1]=true:=λj g hj hjk=>by grind
    cases hv:zci l[k-1] x with
    |true =>
      simp only[zO];refine m1007 k hk hup (λj g hj hjk=>?_);by_cases hj2:j<k-1
      .exact zHT (below j g hj hj2) hv
      grind
    |false =>
      have hkey:keyG l[k-1]=keyG x:=by obtain⟨q1,q2,q3⟩:=zAK hv hlo';unfold keyG;rw[q1,q2,q3]
      simp(disch:=omega)only[zW,zK,zfo,zf3 zaE]
      have hset:l.set (k-1) x=l.take (k-1)++x::l.drop k:=by rw[List.set_eq_take_append_cons_drop,if_pos hkl,show k-1+1=k by omega]
      rw[hset];refine zrT ⟨_,rfl,put_fin ha (by omega) (by omega) (λj g hj hjk=>?_) hup (λj g hj h1 h2=>?_)⟩
      .rw[<-(zEW hkey g).2];exact below j g hj hjk
      grind
  .simp(disch:=omega)only[zaH];exact m1007 k hk hup (λj g _ h=>absurd h (by omega))
 have m1:∀k:Nat,k<=l.length->Up k->Sat Q (zrw l x k):=by
  intro k
  induction k with
  |zero =>
    intro hk hup;refine sat_of (λy=>zBA) ?_;simp(disch:=omega)only[zaH]
    grind
  |succ k ih =>
    intro hk hup;have hkl:k<l.length:=by omega
    have hk1:((k+1:Nat):Int)-1=k:=by omega
    refine sat_of (λy=>zBA) ?_;simp(disch:=omega)only[zI,hk1,zaR,zes,zaa hkl,zCP,zas]
    cases hv:zci x l[k]with
    |true =>
      simp only[zaO]
      grind
    |false =>
      simp only[zay];refine m1004 (k+1) hk hup (λg _ hg=>?_)
      simp_all
 refine sat_of (λy=>zM6) ?_
 grind
def stopB(lv:Int)(e:zad)(r:aA):Bool:=r.any λf=>lv==1&&(f.r==2&&(f.h==e.h&&(f.x==-1||f.x==e.x)))
def c_stopped(s:zam)(hs:zb2 s)(l:aA)(hl:l.length<=100000)(i:Nat)(hi:i<l.length):cw 67 [.agg (zap s),.sl 9 (mA l),I i] []=some (zat (stopB (zhU (zg4 s.k l[i].a.b)).1.I l[i] (l.drop (i+1)))):=by
 have hm16:=hs.markers.1;refine zHI ?_;simp(disch:=omega)only[za,zX,zcB,zaa hi,zwy s.k _ (show s.k.length<=1000000 by omega),znT];generalize zhU (zg4 s.k l[i].a.b)=mk
 have loop:∀(m:Nat) (k:Nat),k+m=l.length->zhN l i mk k=some (zat (stopB mk.1.I l[i] (l.drop k))):=by
  intro m
  induction m with
  |zero=>intro k hk;refine zvK ?_;simp(disch:=omega)only[zH];rw[zcr (by omega)];rfl
  |succ m ih =>
    intro k hk;have hkl:k<l.length:=by omega
    have ih':=ih (k+1) (by omega);refine zvK ?_;rw[zbe hkl];unfold stopB at ih' ⊢;rw[zfd];simp(disch:=omega)only[zI,zcB,zaa hi,zaa hkl,show((k:Int)+1)=((k+1:Nat):Int)by omega,ih'];simp only[zeB]
    repeat' split
    all_goals simp_all[zat]
 exact loop (l.length-(i+1)) (i+1) (by omega)
def orTo(j:Nat)(void v:aP):List Bool:=void.mapIdx λk b=>if k<j then b||v.getD k false else b
def orTo_zero(void v:aP):orTo 0 void v=void:=by
 unfold orTo;apply zc6
 simp_all
def zGw(j:Nat)(void v:aP):(orTo j void v).length=void.length:=by unfold orTo;simp
def zzF{j k:Nat}{void v:aP}:(orTo j void v)[k]?=(void[k]?).map λb=>if k<j then b||v.getD k false else b:=by
 unfold orTo
 grind
def orTo_step{j:Nat}{void v:aP}(hj:j<(orTo j void v).length)(hjv:j<v.length):(orTo j void v).set j ((orTo j void v)[j]||v[j])=orTo (j+1) void v:=by
 apply zc6;intro k;rw[zzF];have hj':j<void.length:=by rw[zGw]at hj;exact hj
 by_cases hk:j=k
 . subst hk;rw[zeS hj,zaa hj']
   have:(orTo j void v)[j]=void[j]:=by
    have h:=zzF (j:=j) (k:=j) (void:=void) (v:=v)
    rw[zaa hj,zaa hj']at h;simpa using h
   grind
 . rw[zdS hk,zzF]
   grind
def deskOf(s:zam)(l:aA)(m:zbh):zaF:=l.foldl (deskE s m.ID.toNat) (desk0 m.I)
def zJu{s:zam}(hs:zb2 s){mk:Nat}:∀(l:aA) (k:Nat) (d:zaF),DeskOk s.H k d->DeskOk s.H (k+l.length) (l.foldl (deskE s mk) d)
 |[],k,d,h=>h
 |e::r,k,d,h=>by rw[zcG,zcA,show k+(r.length+1)=(k+1)+r.length by omega];exact zJu hs r (k+1) _ (deskOk_E hs h e)
def zM2{s:zam}(hs:zb2 s)(l:aA)(m:zbh):(deskOf s l m).d.length<=l.length:=by have:=(zJu hs (mk:=m.ID.toNat) l 0 _ (DeskOk.zero hs.monitor m.I)).susp;unfold deskOf;omega
def zpC(s:zam)(l:aA)(m:zbh):(deskOf s l m).marks.map (·.G)=l.filter (markEv s m.ID.toNat):=by
 obtain⟨h1,h2⟩:=zyd s l (λi=>if i=m.ID.toNat then some (desk0 m.I)else none,[]) m.ID.toNat
 obtain⟨d',e1,e2,_⟩:=h1 (desk0 m.I) (if_pos rfl);rw[zBe]at e1;simp only[if_true,zbk,zaj]at e1;unfold deskOf;rw[e1,e2];simp[desk0]
structure AllV(s:zam)(l:aA)(ms:aN)(void:aP):Prop where
 len:void.length=l.length
 at_:∀m∈ms,∀x∈(deskOf s l m).marks,∀k:Nat,l[k]?=some x.G->void[k]?=some x.xf
 off:∀(k:Nat) (e:zad),l[k]?=some e->(∀m∈ms,m.ID≠e.a.b)->void[k]?=some false
def AllV.step{s:zam}{l:aA}(hv:∀e∈l,eventB e=true){ms:aN}{void v:aP}(h:AllV s l ms void){m:zbh}(hm:1<=m.ID)(hne:∀m'∈ms,m'.ID≠m.ID)(hms:∀m'∈ms,1<=m'.ID)
  (h1:v.length=l.length) (h2:Oth l m.ID.toNat v) (h3:∀x∈(deskOf s l m).marks,∀k:Nat,l[k]?=some x.G->v[k]?=some x.xf):AllV s l (ms++[m]) (orTo v.length void v):=by
 have src:∀{m':zbh} {x:zcq},1<=m'.ID->x∈(deskOf s l m').marks->x.G.a.b=m'.ID:=λ{m' x} hm' hx=>by
  have hmem:x.G∈l.filter (markEv s m'.ID.toNat):=by rw[<-zpC];exact zez hx
  obtain⟨q1,q2⟩:=zcf.1 hmem;unfold markEv at q2
  grind
 refine⟨by rw[zGw];exact h.len,λm' hm' x hx k hk=>?_,λk e hk hno=>?_⟩
 . have hkl:=(zao.1 hk).1;rw[zzF];rcases zbo.1 hm' with hm'|hm'
   .rw[h.at_ m' hm' x hx k hk,zbk,iPQ];have:=h2 k x.G hk (by grind);simp[this]
   .rw[zcH.1 hm']at hx;rw[h.off k x.G hk (λm'' h''=>by grind),zbk,iPQ];simp[h3 x hx k hk]
 .have hkl:=(zao.1 hk).1;rw[zzF,h.off k e hk (λm' h'=>hno m' (zgO _ h')),zbk,iPQ];have:=h2 k e hk (by grind);simp[this]
def c_all{s:zam}(hs:zb2 s){l:aA}(hl:l.length<=2000)(hv:∀e∈l,eventB e=true)(ha:l.Pairwise (λa b=>lessS a.a b.a=true)):∃void,cw 65 [.agg (zap s),.sl 9 (mA l)] []=some (zoQ (s.k.flatMap (λm=>(deskOf s l m).d),void))/\AllV s l s.k void:=by
 let Q:AV×Mem->Prop:=λy=>∃void,y=zoQ (s.k.flatMap (λm=>(deskOf s l m).d),void)/\AllV s l s.k void
 suffices H:Sat Q (cw 65 [.agg (zap s),.sl 9 (mA l)] [])by obtain⟨y,e,r,rfl,h⟩:=H;exact⟨r,e,h⟩
 have hm16:=hs.markers.1;refine sat_of (λy=>zM5) ?_;simp(disch:=omega)only[zK,zaf,zwd nBool]
 have loop:∀(n i:Nat),i+n=s.k.length->∀(out:List zcb) (void:aP),out=(s.k.take i).flatMap (λm=>(deskOf s l m).d)->out.length<=2000*i->AllV s l (s.k.take i) void->Sat Q (zrv s l (mF out) (List.map nBool void) i):=by
  intro n
  induction n with
  |zero=>intro i hi out void ho hol hva;have hvl:=hva.len;refine sat_of (λy=>zBy) ?_;simp(disch:=omega)only[za,zH,zb0];rw[zaz (by simp),zaz (by simp;omega)];rw[zaz (by omega)]at ho hva;exact zrT ⟨void,by rw[ho];rfl,hva⟩
  |succ n ih =>
    intro i hi out void ho hol hva;have hil:i<s.k.length:=by omega
    have hvl:=hva.len;have hmk:=(hs.markers.2.1 _ (zau hil)).1.1;have hid:((s.k[i].ID.toNat:Nat):Int)=s.k[i].ID:=by omega
    obtain⟨v,er,r1,r2,r3⟩:=c_watch hs hl hv ha (mk:=s.k[i].ID.toNat) (by omega) s.k[i].I;rw[hid]at er;have hsl:(l.foldl (deskE s s.k[i].ID.toNat) (desk0 s.k[i].I)).d.length<=l.length:=zM2 hs l s.k[i];refine sat_of (λy=>zBy) ?_;simp(disch:=omega)only[zF,zbp,ze0,zaa hil,er,zxH,eq_self]
    have hstep:AllV s l (s.k.take (i+1)) (orTo v.length void v):=by
     rw[zbP hil];refine hva.step hv hmk.1 (λm' hm'=>?_) (λm' hm'=>(hs.markers.2.1 _ (zel hm')).1.1.1) r1 r2 r3;obtain⟨j,hj⟩:=zce hm';rw[zcx]at hj;split at hj
     .rename_i hji;obtain⟨_,rfl⟩:=zao.1 hj;have:=asc_lt hs.markers.2.2 j i hil hji;omega
     .cases hj
    have hout:out++(l.foldl (deskE s s.k[i].ID.toNat) (desk0 s.k[i].I)).d=(s.k.take (i+1)).flatMap (λm=>(deskOf s l m).d):=by rw[zbP hil,zgg,ho];simp[deskOf]
    have loop2:∀(m j:Nat),j+m=v.length->Sat Q (zoF s l (mF out) i ((l.foldl (deskE s s.k[i].ID.toNat) (desk0 s.k[i].I)).d,v) (List.map nBool (orTo j void v)) j):=by
     intro m
     induction m with
     |zero =>
       intro j hj;refine sat_of (λy=>zBz) ?_;simp(disch:=omega)only[zH,w64_id,<-zbS]
       grind
     |succ m ih2 =>
       intro j hj;have hj1:j<(orTo j void v).length:=by rw[zGw];omega
       have hj2:j<v.length:=by omega
       refine sat_of (λy=>zBz) ?_;have key:=ih2 (j+1) (by omega);rw[<-orTo_step hj1 hj2]at key;simp(disch:=omega)only[zI,zb0,zaR,zqk,zaa hj1,zaa hj2,zf3 nBool]
       cases hb:(orTo j void v)[j]with
       |true=>simp_all
       |false=>simp_all
    have:=loop2 v.length 0 (by omega);rw[orTo_zero]at this;exact this
 exact loop s.k.length 0 (by omega) [] _ (by simp) (by simp) ⟨by simp,by simp,λk e hk _=>by grind⟩
def zJD{s:zam}{n:Int}{k:Nat}{m:zbh}(h:zg4 s.k n=some (k,m)):s.k[k]?=some m/\m.ID=n:=by
 obtain⟨a1,a2,_⟩:=fnd_at h
 simp_all
def seat_of{s:zam}(hs:zb2 s){m:zbh}(hm:m∈s.k):seats s.k m.ID.toNat=some (desk0 m.I):=by
 obtain⟨d,hd⟩:=seats_some hm;obtain⟨m',h1,h2,h3⟩:=zxR _ _ _ hd;obtain⟨i,hi,rfl⟩:=zbB.1 hm;obtain⟨j,hj,rfl⟩:=zbB.1 h1;have q1:=(hs.markers.2.1 _ hm).1.1;have q2:=(hs.markers.2.1 _ h1).1.1;have:j=i:=zDO hs.markers.2.2 hj hi (by omega)
 grind
def zDQ{s:zam}(hs:zb2 s)(l:aA){m:zbh}(hm:m∈s.k):(walkS s l).1 m.ID.toNat=some (deskOf s l m):=by rw[walk_at,seat_of hs hm];rfl
def desk_is{s:zam}(hs:zb2 s){l:aA}{i:Nat}{d:zaF}(h:(walkS s l).1 i=some d):∃m∈s.k,m.ID.toNat=i/\d=deskOf s l m:=by
 rw[walk_at]at h
 cases hs0:seats s.k i with
 |none=>rw[hs0]at h;cases h
 |some d0 =>
   obtain⟨m,h1,h2,h3⟩:=zxR _ _ _ hs0;refine⟨m,h1,h2,?_⟩;have:=zDQ hs l h1;rw[walk_at,h2,hs0]at this
   simp_all
def zwH(s:zam)(l:aA)(m:zbh):(deskOf s l m).N=m.I:=by
 obtain⟨h1,_⟩:=zyd s l (λi=>if i=m.ID.toNat then some (desk0 m.I)else none,[]) m.ID.toNat
 obtain⟨d',e1,_,e3⟩:=h1 (desk0 m.I) (if_pos rfl);rw[zBe]at e1;simp only[if_true,zbk,zaj]at e1;unfold deskOf;rw[e1,e3];rfl
def susp_all{s:zam}(hs:zb2 s)(l:aA):s.k.flatMap (λm=>(deskOf s l m).d)=suspTo (walkS s l).1 100:=by
 have key:∀(n:Nat),(s.k.filter λm=>decide (m.ID.toNat<n)).flatMap (λm=>(deskOf s l m).d)=suspTo (walkS s l).1 n:=by
  intro n
  induction n with
  |zero=>simp[suspTo]
  |succ n ih =>
    have hstep:suspTo (walkS s l).1 (n+1)=suspTo (walkS s l).1 n++(match(walkS s l).1 n with|some d=>d.d|none=>[]):=by unfold suspTo;rw[zeI,zgg];simp only[zh8,List.flatMap_nil,zcu];rfl
    rw[hstep,<-ih]
    have split:∀(ms:aN),AscBy zbh.ID ms->(∀m∈ms,1<=m.ID)->(ms.filter λm=>decide (m.ID.toNat<n+1))=(ms.filter λm=>decide (m.ID.toNat<n))++(ms.filter λm=>decide (m.ID.toNat=n)):=by
     intro ms h1 h2;have hp:ms.Pairwise (λa b=>a.ID<b.ID):=zcn.2 λi j hi hj hij=>asc_lt h1 i j hj hij
     clear h1
     induction ms with
     |nil=>rfl
     |cons m r ihm =>
       obtain⟨p1,p2⟩:=zcQ.1 hp;have ih':=ihm (λx hx=>h2 x (zdr _ hx)) p2;have hm:=h2 m (by simp);rcases zia m.ID.toNat n with h|h|h
       .grind
       . have e1:r.filter (λm=>decide (m.ID.toNat<n))=[]:=zf6.2 λx hx=>by grind
         grind
       grind
    rw[split _ hs.markers.2.2 (λm hm=>(hs.markers.2.1 m hm).1.1.1),zgg];congr 1
    cases hd:(walkS s l).1 n with
    |none =>
      have:s.k.filter (λm=>decide (m.ID.toNat=n))=[]:=zf6.2 λm hm q=>by
       simp only[decide_eq_true_eq]at q;have:=zDQ hs l hm
       simp_all
      rw[this];rfl
    |some d =>
      obtain⟨m,h1,h2,h3⟩:=desk_is hs hd
      have:s.k.filter (λx=>decide (x.ID.toNat=n))=[m]:=by
       have hu:∀x∈s.k,x.ID.toNat=n->x=m:=λx hx hxn=>by
        obtain⟨i,hi,rfl⟩:=zbB.1 hx;obtain⟨j,hj,rfl⟩:=zbB.1 h1;have q1:=(hs.markers.2.1 _ hx).1.1;have q2:=(hs.markers.2.1 _ h1).1.1;have:i=j:=zDO hs.markers.2.2 hi hj (by omega)
        simp_all
       have hnd:(s.k.filter (λx=>decide (x.ID.toNat=n))).Nodup:=by
        have hp:s.k.Pairwise (λa b=>a.ID<b.ID):=zcn.2 λi j hi hj hij=>asc_lt hs.markers.2.2 i j hj hij
        exact(hp.imp λ{a b} h q=>by rw[q]at h;omega:s.k.Nodup).filter _
       have hmem:∀x,x∈s.k.filter (λx=>decide (x.ID.toNat=n))↔x=m:=λx=>by grind
       cases hf:s.k.filter (λx=>decide (x.ID.toNat=n))with
       |nil=>simp_all
       |cons x r =>
         rw[hf]at hnd hmem;have hx:=(hmem x).1 (by simp);subst hx
         cases r with
         |nil=>rfl
         |cons y t=>simp_all
      simp_all
 rw[<-key 100];congr 1;symm;exact List.filter_eq_self.2 λm hm=>by have:=(hs.markers.2.1 m hm).1.1;simpa using by omega
def KeptE(s:zam)(l:aA)(e:zad):Prop:=∃m∈s.k,∃x∈(deskOf s l m).marks,x.G=e/\x.xf=false/\keepM (deskOf s l m) (walkS s l).2 e=true
def keptB(s:zam)(l:aA)(e:zad):Bool:=dec (KeptE s l e)
def gOf(s:zam)(e:zad):za6:=⟨e.h,e.x,e.a.b,(zhU (zg4 s.k e.a.b)).1.I,e.s,e.a⟩
def LastG(s:zam)(K:aA)(g:za6):Prop:=∃e,(K.filter λf=>decide (key3 f=key3 e)).getLast?=some e/\g=gOf s e
def last_key{K:aA}{k:Int×Int×Int}{e:zad}(h:(K.filter λf=>decide (key3 f=k)).getLast?=some e):e∈K/\key3 e=k:=by grind
def zAL(s:zam)(e:zad):keyG (gOf s e)=key3 e:=rfl
def LastG.snoc{s:zam}{K:aA}{e:zad}{g:za6}:LastG s (K++[e]) g↔g=gOf s e\/(LastG s K g/\keyG g≠keyG (gOf s e)):=by
 unfold LastG;constructor
 . rintro⟨f,h1,rfl⟩
   rw[List.filter_append,List.getLast?_append]at h1;by_cases hk:key3 e=key3 f
   .simp_all
   .right;simp only[zQ,zbU,hk,decide_false,zcX,List.getLast?_nil,Option.none_or]at h1;exact⟨⟨f,h1,rfl⟩,by rw[zAL,zAL];grind⟩
 . rintro(rfl|⟨⟨f,h1,rfl⟩,h2⟩)
   .grind
   . rw[zAL,zAL]at h2
     grind
def kept_desk{s:zam}(hs:zb2 s){l:aA}(hv:∀e∈l,eventB e=true)(ha:l.Pairwise (λa b=>lessS a.a b.a=true)){m:zbh}(hm:m∈s.k):(zzy (deskOf s l m)).filter (keepM (deskOf s l m) (walkS s l).2)=(l.filter (keptB s l)).filter (λe=>decide (e.a.b=m.ID)):=by
 have src:∀{m':zbh} {x:zcq},m'∈s.k->x∈(deskOf s l m').marks->x.G∈l/\x.G.a.b=m'.ID:=λ{m' x} hm' hx=>by
  have hmem:x.G∈l.filter (markEv s m'.ID.toNat):=by rw[<-zpC];exact zez hx
  obtain⟨q1,q2⟩:=zcf.1 hmem;unfold markEv at q2;simp only[zY]at q2;have:=(zr6 (hv _ q1)).1.2.1;have:=(hs.markers.2.1 m' hm').1.1
  grind
 refine asc_unique (λe=>?_) ((living_asc ha (zDQ hs l hm)).filter _) ((ha.filter _).filter _);simp only[zzy,zcf,zbA,decide_eq_true_eq,keptB,zoM];constructor
 . rintro⟨⟨x,⟨x1,x2⟩,rfl⟩,hk⟩
   obtain⟨q1,q2⟩:=src hm x1;exact⟨⟨q1,m,hm,x,x1,rfl,by simpa using x2,hk⟩,q2⟩
 . rintro⟨⟨q1,m',hm',x,x1,rfl,x2,hk⟩,q2⟩
   have q3:=(src hm' x1).2
   have:m'=m:=by obtain⟨i,hi,rfl⟩:=zbB.1 hm;obtain⟨j,hj,rfl⟩:=zbB.1 hm';have:j=i:=zDO hs.markers.2.2 hj hi (by rw[<-q3,q2]);subst this;rfl
   grind
def zJE{s:zam}(hs:zb2 s){m:zbh}(hm:m∈s.k):∃k,zg4 s.k m.ID=some (k,m):=by obtain⟨i,hi,rfl⟩:=zbB.1 hm;refine⟨i,fnd_of (zaa hi) (by simp) (λk y hk hy=>?_)⟩;obtain⟨q,rfl⟩:=zao.1 hy;have:=asc_lt hs.markers.2.2 k i hi hk;simpa using by omega
def given_last{s:zam}(hs:zb2 s){l:aA}(g:za6):g∈(foldS s l).M↔LastG s ((canonS l).filter (keptB s (canonS l))) g:=by
 have hv:∀e∈canonS l,eventB e=true:=zEO;have ha:=zJp l;generalize hc:canonS l=c at *;rw[zzu,hc,(zg7 (lt:=zci) _).mem_iff,zq9]
 have key:∀(m:zbh),m∈s.k->∀k:za1,mfind k (countS (deskOf s c m) (walkS s c).2)=((c.filter (keptB s c)).filter λf=>decide (key3 f=(k.script,k.xc,m.ID))).getLast?:=by
  intro m hm k;rw[countS_eq,kept_desk hs hv ha hm,zDm (λe=>(⟨e.h,e.x⟩:za1)) (λe=>e),List.filter_filter (l:=c.filter (keptB s c))]
  have:(λe:zad=>decide ((⟨e.h,e.x⟩:za1)=k)&&decide (e.a.b=m.ID))=(λf=>decide (key3 f=(k.script,k.xc,m.ID))):=by funext e;cases k;simp only[key3,za1.mk.injEq,zaC];rw[<-Bool.decide_and];congr 1;rw[and_assoc]
  rw[this];cases((c.filter (keptB s c)).filter λf=>decide (key3 f=(k.script,k.xc,m.ID))).getLast?<;>rfl
 have lev:∀(m:zbh),m∈s.k->∀e:zad,e.a.b=m.ID->gOf s e=zdQ m.ID.toNat (deskOf s c m) e:=λm hm e he=>by have:=(hs.markers.2.1 m hm).1.1;obtain⟨k,hk⟩:=zJE hs hm;unfold gOf zdQ;rw[he,hk,zwH];simp only[zhU];congr 1;omega
 constructor
 . rintro⟨i,hi,d,hd,p,hp,rfl⟩
   obtain⟨m,hm,rfl,rfl⟩:=desk_is hs hd;have h1:=zpZ (zwF _ _).1 hp;rw[key m hm]at h1;obtain⟨_,h2⟩:=last_key h1;refine⟨p.2,by rw[h2];exact h1,?_⟩;rw[lev m hm p.2 (by injection h2 with _ h;injection h with _ h)]
 . rintro⟨e,h1,rfl⟩
   obtain⟨q1,_⟩:=last_key h1;obtain⟨q2,q3⟩:=zcf.1 q1;obtain⟨m,hm,x,x1,rfl,x2,_⟩:=zoM.1 q3;have hmem:x.G∈c.filter (markEv s m.ID.toNat):=by rw[<-zpC];exact zez x1
   have q4:=(zcf.1 hmem).2;unfold markEv at q4;simp only[zY]at q4;have h99:=(hs.markers.2.1 m hm).1.1;have:=(zr6 (hv _ q2)).1.2.1;have hsrc:x.G.a.b=m.ID:=by omega
   refine⟨m.ID.toNat,by omega,_,zDQ hs c hm,(⟨x.G.h,x.G.x⟩,x.G),zjc ?_,lev m hm _ hsrc⟩;rw[key m hm,<-hsrc];exact h1
def zLa:∀{a b:aL},(∀g,g∈a↔g∈b)->a.Pairwise (λa b=>zci a b=true)->b.Pairwise (λa b=>zci a b=true)->a=b:=by
 intro a b h ha hb
 have nd:∀l:List za6,l.Pairwise (λa b=>zci a b=true)->l.Nodup:=λl hl=>hl.imp λ{x y} h q=>by rw[q,zEV]at h;cases h
 refine zlZ (lt:=zci) ((zcE (nd a ha) (nd b hb)).2 h) (ha.imp λh=>zrt h) (hb.imp λh=>zrt h) ?_;intro x hx y hy h1 h2;obtain⟨i,hi,rfl⟩:=zbB.1 hx;obtain⟨j,hj,rfl⟩:=zbB.1 hy;have:=zcn.1 ha
 grind
def zJS(c:aA)(k:za1):mfind k (c.foldl reopE [])=(((c.filter λe=>e.r==2).filter λe=>decide ((⟨e.h,e.x⟩:za1)=k)).getLast?).map (·.a):=by
 have h1:∀(l:aA) (R:Reop),l.foldl reopE R=(l.filter λe=>e.r==2).foldl (λm e=>mput (⟨e.h,e.x⟩:za1) e.a m) R:=by
  intro l
  induction l with
  |nil=>intro R;rfl
  |cons e r ih =>
    intro R;rw[zcG,ih];unfold reopE
    grind
 rw[h1,zDm (λe=>(⟨e.h,e.x⟩:za1)) (λe=>e.a)];cases((c.filter λe=>e.r==2).filter λe=>decide ((⟨e.h,e.x⟩:za1)=k)).getLast?<;>rfl
def laterO(a:zbf):Option zbf->Bool
 |some x=>lessS a x
 |none=>false
def zHZ{K:aA}(ha:K.Pairwise (λa b=>lessS a.a b.a=true))(a:zbf):laterO a (K.getLast?.map (·.a))=K.any λf=>lessS a f.a:=by
 rcases List.eq_nil_or_concat K with rfl|⟨r,e,rfl⟩
 .rfl
 rw[List.concat_eq_append]at ha ⊢;rw[List.getLast?_append,List.any_append];simp only[List.getLast?_singleton,Option.some_or,zbk,zfd,zkf,zfc,laterO]
 cases h:lessS a e.a with
 |true=>rw[Bool.or_true]
 |false=>rw[zfc];symm;rw[List.any_eq_false];intro f hf q;have:=(ze3.1 ha).2.2 f hf e (by simp);rw[lessS_tr q this]at h;cases h
def drop_later{c:aA}(ha:c.Pairwise (λa b=>lessS a.a b.a=true)){i:Nat}(hi:i<c.length)(p:zad->Bool):((c.drop (i+1)).any p)=c.any λf=>p f&&lessS c[i].a f.a:=by
 rw[zdi,zgr,zgr];constructor
 . rintro⟨f,hf,hp⟩
   obtain⟨j,hj⟩:=zce hf;rw[zb9]at hj;refine⟨f,zav hj,?_⟩;rw[hp,pl_less ha (zaa hi) hj (by omega)];rfl
 . rintro⟨f,hf,hp⟩
   simp only[zaS]at hp;obtain⟨j,hj⟩:=zce hf
   have hij:i<j:=by
    rcases zia i j with h|h|h
    .exact h
    .subst h;rw[zaa hi]at hj;injection hj with hj;rw[hj,zsY]at hp;cases hp.2
    .have:=pl_less ha hj (zaa hi) h;rw[zk5 this]at hp;cases hp.2
   exact⟨f,zav (i:=j-(i+1)) (by grind),hp.1⟩
def zJ1{s:zam}{c:aA}(ha:c.Pairwise (λa b=>lessS a.a b.a=true)){i:Nat}(hi:i<c.length){lv:Int}(hlv:1<=lv):stopB lv c[i] (c.drop (i+1))=(decide (lv<2)&&reopB (walkS s c).2 c[i]):=by
 unfold stopB;rw[drop_later ha hi];rw[show reopB (walkS s c).2 c[i]=(laterO c[i].a (mfind ⟨c[i].h,c[i].x⟩ (walkS s c).2)||laterO c[i].a (mfind ⟨c[i].h,-1⟩ (walkS s c).2))from rfl,walk_reop,zJS,zJS];rw[zHZ ((ha.filter _).filter _),zHZ ((ha.filter _).filter _)];by_cases h1:lv=1
 . subst h1;rw[show decide ((1:Int)<2)=true from rfl,zcy,zdi];simp only[zL,zgr,zfL,zaS,zcf,za1.mk.injEq,true_and]
   grind
 grind
def fits_all{s:zam}(hs:zb2 s)(e:zad):dec (FitsE s e)=(e.r==0&&(fitS s e).isSome):=by
 by_cases hk:e.r=0
 .rw[fits_iff hs hk,hk];rfl
 .rw[show(e.r==0)=false by simpa using hk,zcU];exact zbJ λ⟨_,_,h,_⟩=>hk h
def kept_test{s:zam}(hs:zb2 s){c:aA}(hv:∀e∈c,eventB e=true)(ha:c.Pairwise (λa b=>lessS a.a b.a=true)){void:aP}(h:AllV s c s.k void){i:Nat}(hi:i<c.length)(hiv:i<void.length):keptB s c c[i]=(!(seedS s c[i].h).isSome&&(!void[i]&&(dec (FitsE s c[i])&&!stopB (zhU (zg4 s.k c[i].a.b)).1.I c[i] (c.drop (i+1))))):=by
 have he:c[i]?=some c[i]:=zaa hi;have hb:=zr6 (hv _ (zau hi));rw[fits_all hs,zdi];unfold keptB;rw[zoM];simp only[zY,zdo];constructor
 . rintro⟨m,hm,x,x1,x2,x3,x4⟩
   have hmem:x.G∈c.filter (markEv s m.ID.toNat):=by rw[<-zpC];exact zez x1
   have q4:=(zcf.1 hmem).2;rw[x2]at q4;unfold markEv at q4;simp only[zY,Option.isNone_iff_eq_none]at q4;obtain⟨⟨⟨k0,k1⟩,k2⟩,k3⟩:=q4;have hM:=(hs.markers.2.1 m hm).1;have hsrc:c[i].a.b=m.ID:=by have:=hb.1.2.1;have:=hM.1;omega
   have hvo:=h.at_ m hm x x1 i (by rw[x2];exact he);rw[zaa hiv,x3]at hvo;injection hvo with hvo;obtain⟨k,hk⟩:=zJE hs hm;refine⟨by rw[k3];rfl,hvo,⟨k0,k2⟩,?_⟩;rw[hsrc,hk,zJ1 (s:=s) ha hi (by simpa only[zhU]using hM.2.2.1.1)];unfold keepM at x4;rw[zwH,zdo]at x4;exact x4
 . rintro⟨k3,hvo,⟨k0,k2⟩,hst⟩
   obtain⟨q,hq⟩:=zaN.1 k2;obtain⟨x,p,y,_,h2,_⟩:=zr7 hq;unfold eligB at h2
   cases hmi:zg4 s.k c[i].a.b with
   |none=>grind
   |some km =>
     obtain⟨k,m⟩:=km;obtain⟨a1,a2⟩:=zJD hmi;have hm:=zav a1;have hM:=(hs.markers.2.1 m hm).1
     have hmem:c[i]∈c.filter (markEv s m.ID.toNat):=zcf.2 ⟨zau hi,by
      unfold markEv
      simp_all⟩
     rw[<-zpC]at hmem;obtain⟨z,z1,z2⟩:=zbA.1 hmem;have hvz:=h.at_ m hm z z1 i (by rw[z2];exact he);rw[zaa hiv,hvo]at hvz;injection hvz with hvz;refine⟨m,hm,z,z1,z2,hvz.symm,?_⟩;rw[hmi,zJ1 (s:=s) ha hi (by simpa only[zhU]using hM.2.2.1.1)]at hst;unfold keepM;rw[zwH,zdo];exact hst
def zpz{s:zam}(hs:zb2 s){l:aA}(hl:l.length<=2000)(hp:∀e∈l,e.A.length<=1000000):cw 19 [.agg (zap s),.sl 9 (mA l)] []=some (znA (foldS s l,0)):=by
 have hsd:=hs.seeds;have hm16:=hs.markers.1;have hv:∀e∈canonS l,eventB e=true:=zEO;have ha:=zJp l;have hcp:∀e∈canonS l,e∈l:=λe he=>(zJq.1 he).1
 have hcl:(canonS l).length<=l.length:=by rw[(zid l).length_eq,<-(zHn l).length_eq];exact zCZ
 obtain⟨void,e2,av⟩:=c_all hs (l:=canonS l) (by omega) hv ha;refine zMg ?_;simp only[zG,zrm hs,za7,zCK l hl hp,zhf,e2,zxH];have hgl:=given_last hs (l:=l);have hga:=given_asc s l;have hfs:(foldS s l).xo=s.k.flatMap (λm=>(deskOf s (canonS l) m).d):=by rw[susp_all hs,zzu]
 generalize hc:canonS l=c at *;have hvl:=av.len
 have loop:∀(n i:Nat),i+n=c.length->∀out:List za6,out.length<=i->out.Pairwise (λa b=>zci a b=true)->(∀g,g∈out↔LastG s ((c.take i).filter (keptB s c)) g)->zhB s (c,0) (s.k.flatMap (λm=>(deskOf s c m).d),void) (mC out) i=some (znA (foldS s l,0)):=by
  intro n
  induction n with
  |zero=>intro i hi out ho hpa hmem;refine zzV ?_;simp(disch:=omega)only[zH,zar];rw[zaz (by simp)];rw[zaz (by omega)]at hmem;have:out=(foldS s l).M:=zLa (λg=>by rw[hmem,hgl]) hpa hga;rw[this,<-hfs];rfl
  |succ n ih =>
    intro i hi out ho hpa hmem;have hil:i<c.length:=by omega
    have hiv:i<void.length:=by omega
    have hkt:=kept_test hs hv ha av hil hiv
    have htk:(c.take (i+1)).filter (keptB s c)=(c.take i).filter (keptB s c)++(if keptB s c c[i]=true then[c[i]]else[]):=by rw[zbP hil,List.filter_append];congr 1;rw[zbU];split<;>simp_all
    have stay:keptB s c c[i]=false->zhB s (c,0) (s.k.flatMap (λm=>(deskOf s c m).d),void) (mC out) ((i:Int)+1)=some (znA (foldS s l,0)):=λhf=>ih (i+1) (by omega) out (by omega) hpa (λg=>by grind)
    refine zzV ?_;simp(disch:=omega)only[zI,zcB,zaa hil,zim s.E _ (show s.E.length<=1000000 by omega) (zqE hs),zf0,zqk,zaa hiv,zCO s hs c[i] hs.short2 (hp _ (hcp _ (zau hil))),zas,c_stopped s hs c (by omega) i hil,zas,zwy s.k _ (show s.k.length<=1000000 by omega),znT]
    have hsr:(seedR (seedOf s.E c[i].h)).2=(seedS s c[i].h).isSome:=by unfold seedS;cases seedOf s.E c[i].h<;>rfl
    rw[hsr]
    cases b1:(seedS s c[i].h).isSome with
    |true=>simp_all
    |false =>
      simp only[zay]
      cases b2:void[i]with
      |true=>simp_all
      |false =>
        simp only[zay]
        cases b3:dec (FitsE s c[i])with
        |false=>simp_all
        |true =>
          simp only[zO]
          cases b4:stopB (zhU (zg4 s.k c[i].a.b)).1.I c[i] (c.drop (i+1))with
          |true=>simp_all
          |false =>
            simp only[zay,eq_self,zbp];have hk:keptB s c c[i]=true:=by rw[hkt,b1,b2,b3,b4];rfl
            have hgo:(⟨c[i].h,c[i].x,(zhU (zg4 s.k c[i].a.b)).1.ID,(zhU (zg4 s.k c[i].a.b)).1.I,c[i].s,⟨c[i].a.n,c[i].a.b,c[i].a.B⟩⟩:za6)=gOf s c[i]:=by
             rw[fits_all hs,zaS]at b3;obtain⟨q,hq⟩:=zaN.1 b3.2;obtain⟨x,p,y,_,h2,_⟩:=zr7 hq;unfold eligB at h2
             cases hmi:zg4 s.k c[i].a.b with
             |none=>grind
             |some km=>obtain⟨k,m⟩:=km;unfold gOf;rw[hmi];simp only[zhU];rw[(zJD hmi).2]
            obtain⟨r,er,pg⟩:=c_put (l:=out) (by omega) hpa (gOf s c[i]);simp only[zac]at er;simp only[hgo,er,zsy];refine ih (i+1) (by omega) r (by have:=pg.len;omega) pg.asc (λg=>?_);rw[pg.mem,hmem,htk,if_pos hk,LastG.snoc]
 exact loop c.length 0 (by omega) [] (by simp) List.Pairwise.nil (λg=>by simp[LastG])
end Go.Proofs.YtlecnobdfhlmnaaGreat
end
