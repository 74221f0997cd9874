/- The two programs of conversion answer alike, function by function, for any curves and fractions. -/
import Derived.Test.YtcpnffbcljkbkaaGreatDoorJ0
import Derived.Test.YtcpnffbcljkbkaaGreatDoorXAnn
import Derived.Lib.AppendIntMem
import Derived.Test.YtcpnffbcljkbkaaGreatDoorXCs
set_option linter.all false
noncomputable section
set_option maxRecDepth 100000
namespace Go.Proofs.YtcpnffbcljkbkaaGreatDoor
open Go.Ab Go.Pure Go.Sort
abbrev zS:=zB @decide_eq_true_eq @zfZ
def GoodP(pts:List zdv):Prop:=∃l:List Pt,pts=l.map ofP/\AllF l/\Asc l
def good_mem{pts:List zdv}(h:GoodP pts){p:zdv}(hp:p∈pts):VR p.X/\VR p.Y:=by obtain⟨l,rfl,h1,_⟩:=h;obtain⟨q,hq,rfl⟩:=zbf.1 hp;exact⟨fit_VR (h1 q hq).1,fit_VR (h1 q hq).2⟩
def VR_point{p:zdv}(h1:VR p.X)(h2:VR p.Y):∃q:Pt,Fit q.1/\Fit q.2/\p=ofP q:=by obtain⟨a,ha,ea⟩:=VR_fit h1;obtain⟨b,hb,eb⟩:=VR_fit h2;exact⟨(a,b),ha,hb,by cases p;simp only at ea eb;rw[ea,eb];rfl⟩
def zGq{l:List Pt}{q p:Pt}(h1:AllF l)(h2:Asc l)(hq:Fit q.1/\Fit q.2)(hz:∀p,l.getLast?=some p->p.1<q.1/\p.2<q.2):AllF (l++[q])/\Asc (l++[q]):=by
 refine⟨λp hp=>?_,?_⟩
 . rcases zaX.1 hp with hp|hp
   .exact h1 p hp
   .rw[zbs.1 hp];exact hq
 . unfold Asc;rw[List.pairwise_append];refine⟨h2,List.pairwise_singleton _ _,λp hp z hz'=>?_⟩;rw[zbs.1 hz'];have hne:l≠[]:=List.ne_nil_of_mem hp;have hl:=hz _ (List.getLast?_eq_some_getLast hne);rcases zeU.1 hp with⟨i,hi,rfl⟩
   rcases zcs (i+1) l.length with h|h
   . have hlast:l.getLast hne=l[l.length-1]:=List.getLast_eq_getElem hne;rw[hlast]at hl;have:=zf2.1 h2 i (l.length-1) hi (by omega) (by omega)
     grind
   . have hlast:l.getLast hne=l[i]:=by rw[List.getLast_eq_getElem hne];congr 1;omega
     rw[hlast]at hl;exact hl
section
variable{pts:List zdv}
def elemG{β:Type}{i:Nat}(hi:i<pts.length)(k:zdv->Option β):elemD zfr (mQ pts) i k=k pts[i]:=
 zGk (D:=zfr) (zaa hi) k
def lenG(l:List zdv):(mQ l).length=l.length:=by simp
def good_step{i:Nat}(hi:i<pts.length)(h:GoodP (pts.take i)):(¬VR pts[i].X\/¬VR pts[i].Y->¬GoodP pts)/\(VR pts[i].X->VR pts[i].Y->∃q:Pt,Fit q.1/\Fit q.2/\pts[i]=ofP q/\(i=0->GoodP (pts.take (i+1)))/\(0<i->∃p:Pt,Fit p.1/\Fit p.2/\(∃h':i-1<pts.length,pts[i-1]=ofP p)/\((p.1<q.1/\p.2<q.2)->GoodP (pts.take (i+1)))/\(¬(p.1<q.1/\p.2<q.2)->¬GoodP pts))):=by
 refine⟨λh1 h2=>?_,λh1 h2=>?_⟩
 . have:=good_mem h2 (zaq hi);rcases h1 with h1|h1
   .exact h1 this.1
   .exact h1 this.2
 . obtain⟨q,hq1,hq2,eq⟩:=VR_point h1 h2;obtain⟨l,hl,hf,ha⟩:=h
   have hll:l.length=i:=by have:=congrArg List.length hl;simp at this;omega
   have ht:pts.take (i+1)=(l++[q]).map ofP:=by rw[zdi,zaa hi,hl,eq];simp only[zct];rfl
   refine⟨q,hq1,hq2,eq,λh0=>?_,λh0=>?_⟩
   .have hnil:l=[]:=zd6.1 (by omega);obtain⟨g1,g2⟩:=zGq (q:=q) (p:=q) hf ha ⟨hq1,hq2⟩ (λp hp=>by rw[hnil]at hp;cases hp);exact⟨l++[q],ht,g1,g2⟩
   . have hne:l≠[]:=by intro e;rw[e]at hll;simp at hll;omega
     have hp':l[i-1]?=some l[i-1]:=zaa (by omega);have hpf:=hf _ (zaq (show i-1<l.length by omega))
     have epp:pts[i-1]=ofP l[i-1]:=by
      have e1:(pts.take i)[i-1]?=some (ofP l[i-1]):=by rw[hl,zbv,hp'];rfl
      rw[zcw,iPQ,zaa (by omega)]at e1;injection e1
     refine⟨l[i-1],hpf.1,hpf.2,⟨by omega,epp⟩,λhlt=>?_,λhn hg=>?_⟩
     . obtain⟨g1,g2⟩:=zGq (q:=q) (p:=q) hf ha ⟨hq1,hq2⟩ (λp hp=>by
        rw[List.getLast?_eq_getElem?,hll,hp']at hp;injection hp with hp
        rw[<-hp];exact hlt)
       exact⟨l++[q],ht,g1,g2⟩
     . obtain⟨m,hm,_,hma⟩:=hg;have hml:m.length=pts.length:=by rw[hm];simp
       have e1:ofP m[i-1]=ofP l[i-1]:=by
        have:pts[i-1]=ofP m[i-1]:=by simp only[hm,zjB]
        rw[<-this,epp]
       have e2:ofP m[i]=ofP q:=by
        have:pts[i]=ofP m[i]:=by simp only[hm,zjB]
        rw[<-this,eq]
       have inj:∀a b:Pt,ofP a=ofP b->a=b:=λa b e=>by have e3:ofR a.1=ofR b.1:=congrArg zdv.X e;have e4:ofR a.2=ofR b.2:=congrArg zdv.Y e;exact zfR (ofR_inj e3) (ofR_inj e4)
       have:=zf2.1 hma (i-1) i (by omega) (by omega) (by omega);rw[inj _ _ e1,inj _ _ e2]at this;exact hn this
def k_ris(hl:pts.length<=100000):∀(k i:Nat),i+k=pts.length->GoodP (pts.take i)->zj8 pts (i:Int)=some (zao (dec (GoodP pts/\2<=pts.length))):=by
 have no:¬GoodP pts->dec (GoodP pts/\2<=pts.length)=false:=λh=>zb1 (λh2=>h h2.1)
 intro k
 induction k with
 |zero =>
   intro i hk hg;refine zvM ?_;rw[zar (by omega)]at hg;rw[zhI,if_neg (by rw[lenG];omega),lenG];by_cases h2:2<=pts.length
   .rw[zbP ⟨hg,h2⟩,decide_eq_true (by omega)];rfl
   .rw[zb1 (λh=>h2 h.2),decide_eq_false (by omega)];rfl
 |succ k ih =>
   intro i hk hg;have hi:i<pts.length:=by omega
   have ew:w64 ((i:Int)+1)=((i+1:Nat):Int):=by rw[w6Q];omega
   obtain⟨s1,s2⟩:=good_step hi hg;refine zvM ?_;rw[zhI,if_pos (by rw[lenG];omega),cPQ];simp only[zae];rw[elemG hi,zmr,zaG,ew];by_cases h1:VR pts[i].X
   . rw[decide_eq_true h1,brn_nt,cPQ,elemG hi,zmr,zaG];by_cases h2:VR pts[i].Y
     . obtain⟨q,hq1,hq2,eq,t1,t2⟩:=s2 h1 h2;rw[decide_eq_true h2,brn_nt,zhI];by_cases h0:i=0
       .rw[iNQ];exact ih (i+1) (by omega) (t1 h0)
       . obtain⟨p,hp1,hp2,⟨hi',ep⟩,t3,t4⟩:=t2 (by omega);have ew2:w64 ((i:Int)-1)=((i-1:Nat):Int):=by rw[w6Q];omega
         have hl1:=zvc p.1 q.1 hp1 hq1;have hl2:=zvc p.2 q.2 hp2 hq2;have ex1:(pts[i-1]).X=ofR p.1:=by rw[ep];rfl
         have ex2:(pts[i-1]).Y=ofR p.2:=by rw[ep];rfl
         have ex3:(pts[i]).X=ofR q.1:=by rw[eq];rfl
         have ex4:(pts[i]).Y=ofR q.2:=by rw[eq];rfl
         rw[iPQ,ew2,cPQ,zae,elemG hi',cPQ,elemG hi,ex1,ex3,hl1,zaG];by_cases l1:p.1<q.1
         . rw[decide_eq_true l1,brn_nt,cPQ,elemG hi',cPQ,elemG hi,ex2,ex4,hl2,zaG];by_cases l2:p.2<q.2
           .rw[decide_eq_true l2,brn_nt];exact ih (i+1) (by omega) (t3 ⟨l1,l2⟩)
           .rw[decide_eq_false l2,brn_nf,no (t4 (λh=>l2 h.2))];rfl
         .rw[decide_eq_false l1,brn_nf,no (t4 (λh=>l1 h.1))];rfl
     .rw[decide_eq_false h2,brn_nf,no (s1 (.inr h2))];rfl
   .rw[decide_eq_false h1,brn_nf,no (s1 (.inl h1))];rfl
end
def good_nil:GoodP []:=⟨[],rfl,λp hp=>absurd hp (zbh),List.Pairwise.nil⟩
def VC(c:zeT):Prop:=2<=c.xi.length/\c.xi.length<=410/\GoodP c.xi
def zEy(c:zeT):cw 86 [.agg (zft c)] []=some (zao (dec (VC c))):=by
 refine zIx ?_;rw[lenG,zhI];by_cases h2:c.xi.length<=410
 .have h:=zF2 (k_ris (pts:=c.xi) (by omega) c.xi.length 0 (by omega) (by rw[zh7];exact good_nil));rw[iPQ,h,zaG];rw[zl6 (show VC c↔(GoodP c.xi/\2<=c.xi.length)from⟨λh=>⟨h.2.2,h.1⟩,λh=>⟨h.2,h2,h.1⟩⟩)];rfl
 .rw[iNQ,zb1 (λh=>h2 h.2.1)];rfl
section
open Go.Ab Go.Pure
def rndR(a:Rat):Int:=(2*a.num+a.den) / (2*a.den)
def c_rRoundF(a:Rat)(ha:Fit a):cw 184 [aR a] []=some (za9 (rndR a)):=by
 have ha1:=ha.1;have ha2:=ha.2;have pa:=a.den_pos;refine zIe ?_;rw[zkO ha,zaG,brn_nt,oN,oD,w6Q (n:=2*a.num),w6Q (n:=2*a.num+a.den),w6Q (n:=2*(a.den:Int))]
 have fl:cw 213 [I (2*a.num+a.den),I (2*(a.den:Int))] []=some (za9 (rndR a)):=by
  refine zIh ?_;unfold rndR;generalize hN:2*a.num+(a.den:Int)=N;have hD:(0:Int)<2*(a.den:Int):=by omega
  have nb:-4611686018427387904<=N/\N<=4611686018427387904:=by omega
  generalize 2*(a.den:Int)=D at *;rw[cPQ,cPQ,zhI];have f1:=zgs N D;have f2:=zd5 N hD
  have f3:-D<N.tmod D:=by have:=zd5 (-N) hD;rw[Int.neg_tmod]at this;omega
  have f5:-4611686018427387904<=N.tdiv D/\N.tdiv D<=4611686018427387904:=by have:=Int.natAbs_tdiv_le_natAbs N D;omega
  by_cases hs:N.tmod D<0
  .rw[if_pos hs,w6Q (n:=N.tdiv D),w6Q];have:=((Int.ediv_emod_unique (a:=N) (b:=D) (r:=N.tmod D+D) (q:=N.tdiv D-1) (by omega)).2 ⟨by grind,by omega,by omega⟩).1;rw[this];rfl
  .rw[if_neg hs,w6Q (n:=N.tdiv D)];have:=((Int.ediv_emod_unique (a:=N) (b:=D) (r:=N.tmod D) (q:=N.tdiv D) (by omega)).2 ⟨by grind,by omega,by omega⟩).1;rw[this];rfl
 rw[fl,zcj];rfl
end
section
open Go.Ab
def zGV(l:aQ)(m:Int):∃v,cw 94 [.sl 1 (List.map zaj l),I m] []=some (za9 v)/\(v=0->0<l.length/\l.length<=9):=by
 refine zch (D:=zaE) (P:=λv=>v=0->0<l.length/\l.length<=9) (sat_of (λy=>zIy) ?_);have no:∀k:Int,k≠0->Sat (λy=>∃v:Int,y=za9 v/\(v=0->0<l.length/\l.length<=9)) (some (I k,([]:Mem))):=λk hk=>za1 ⟨k,rfl,λh=>absurd h hk⟩
 refine sq_brn (λ_=>no 2 (by decide)) (λh0=>?_);refine sq_brn (λ_=>no 2 (by decide)) (λh1=>?_);refine sq_brn (λ_=>no 3 (by decide)) (λh2=>?_);refine sq_brn (λ_=>no 3 (by decide)) (λh3=>?_)
 have hp:0<l.length:=by rw[zab]at h2;simp only[zU]at h2;omega
 have h9:l.length<=9:=by rw[zab]at h3;have:=of_decide_eq_false h3;omega
 have yes:∀k:Int,Sat (λy=>∃v:Int,y=za9 v/\(v=0->0<l.length/\l.length<=9)) (some (I k,([]:Mem))):=λk=>za1 ⟨k,rfl,λ_=>⟨hp,h9⟩⟩
 have two:∀k i:Nat,i+k=l.length->0<i->Sat (λy=>∃v:Int,y=za9 v/\(v=0->0<l.length/\l.length<=9)) (znR l i):=by
  intro k
  induction k with
  |zero=>intro i hi _;refine sat_of (λy=>zwI) ?_;rw[zaC (by rw[zab];omega)];exact yes 0
  |succ k ih =>
    intro i hi hi0;have hlt:i<l.length:=by omega
    have hlt2:((i:Int)-1).toNat<l.length:=by omega
    refine sat_of (λy=>zwI) ?_;simp(disch:=omega)only[zE,zcc,zaa hlt,zaa hlt2];refine sq_brn (λ_=>yes 43) (λ_=>?_);have:=ih (i+1) (by omega) (by omega)
    rwa[show((i+1:Nat):Int)=(i:Int)+1 by omega]at this
 refine ziy l.length (λi=>znQ l m i) ?_ (λi hi ih=>?_)
 .refine sat_of (λy=>zwH) ?_;rw[zaC (by rw[zab];omega)];exact two (l.length-1) 1 (by omega) (by omega)
 .refine sat_of (λy=>zwH) ?_;simp(disch:=omega)only[zE,zcc,zaa hi];exact sq_brn (λ_=>yes 2) (λ_=>sq_brn (λ_=>yes 2) (λ_=>by simpa(disch:=omega)only[w64_id]using ih))
def s_Grade(l:aQ)(m:Int)(hl:l.length<=1000):∃v,cw 145 [.sl 1 (List.map zaj l),I m] []=some (za9 v)/\(0<=v/\v<=1000):=by
 refine zch (D:=zaE) (P:=λv=>0<=v/\v<=1000) (sat_of (λy=>zIz) ?_);refine ziy l.length (λi=>znS l m i) ?_ (λi hi ih=>?_)
 .refine sat_of (λy=>zwJ) ?_;rw[zaC (by rw[zab];omega),zab];exact za1 ⟨(l.length:Int),rfl,show(0:Int)<=l.length by omega,show(l.length:Int)<=1000 by omega⟩
 .refine sat_of (λy=>zwJ) ?_;simp(disch:=omega)only[zE,zcc,zaa hi];exact sq_brn (λ_=>za1 ⟨(i:Int),rfl,show(0:Int)<=i by omega,show(i:Int)<=1000 by omega⟩) (λ_=>ih)
def c_in36(a b c:Int):cw 134 [I a,I b,I c] []=some (zao (dec (b<=a/\a<=c))):=by
 refine e_ref36_in ?_;simp only[zS];split
 .rw[show decide (a<=c)=dec (b<=a/\a<=c)from zij (by simp only[decide_eq_true_eq];omega)];rfl
 .rw[zb1 (by omega)];rfl
def OkAw(a:zcf):Prop:=(0<a.Q.length/\a.Q.length<=6)/\(∀u∈a.Q,(0<=u.v/\u.v<=31)/\(1<=u.xr/\u.xr<=1000)/\1<=u.N/\u.N<=200)/\(1<=a.N/\a.N<=200)/\0<a.W.length/\a.W.length<=9
def zwo(a:zcf):∃v,cw 83 [.agg (zc5 a)] []=some (za9 v)/\(v=0->OkAw a):=by
 refine zch (D:=zaE) (P:=λv=>v=0->OkAw a) (sat_of (λy=>zIA) ?_);have no:∀k:Int,k≠0->Sat (λy=>∃v:Int,y=za9 v/\(v=0->OkAw a)) (some (I k,([]:Mem))):=λk hk=>za1 ⟨k,rfl,λh=>absurd h hk⟩
 refine sq_brn (λ_=>no 3 (by decide)) (λh0=>sq_brn (λ_=>no 3 (by decide)) (λh1=>?_));rw[zab]at h0 h1;simp only[zU]at h0;have h1:=of_decide_eq_false h1
 have call:∀{x b c:Int} {K:ai},((b<=x/\x<=c)->Sat (λy=>∃v:Int,y=za9 v/\(v=0->OkAw a)) K)->Sat (λy=>∃v:Int,y=za9 v/\(v=0->OkAw a)) (callD zac (cw 134 [I x,I b,I c] []) λr=>brn (!r) bI K):=λ{x b c K} h1=>by
  rw[c_in36,zaG];by_cases h:b<=x/\x<=c
  .rw[zbP h];exact h1 h
  .rw[zb1 h];exact no 2 (by decide)
 have loop:∀k i:Nat,i+k=a.Q.length->(∀u∈a.Q.take i,(0<=u.v/\u.v<=31)/\(1<=u.xr/\u.xr<=1000)/\1<=u.N/\u.N<=200)->Sat (λy=>∃v:Int,y=za9 v/\(v=0->OkAw a)) (zlb a i):=by
  intro k
  induction k with
  |zero =>
    intro i hi hu;refine sat_of (λy=>zwK) ?_;rw[zaC (by rw[zab];omega)];refine call λhm=>?_
    refine zbq (D:=zaE) (zGV a.W a.N) (λv hv=>?_);refine za1 ⟨v,rfl,λh=>⟨⟨by omega,by omega⟩,?_,hm,hv h⟩⟩
    rwa[zar (by omega)]at hu
  |succ k ih =>
    intro i hi hu;have hlt:i<a.Q.length:=by omega
    refine sat_of (λy=>zwK) ?_;simp(disch:=omega)only[zE,zni,zaa hlt];refine call λq1=>?_
    refine call λq2=>?_
    refine call λq3=>?_
    have go:=ih (i+1) (by omega) (λu hm=>by
     rw[zdi,zaa hlt,ziK]at hm;rcases zaX.1 hm with h|h
     .exact hu u h
     . rw[zbs]at h;subst h
       exact⟨q1,q2,q3⟩)
    rw[show((i+1:Nat):Int)=(i:Int)+1 by omega]at go;refine sq_brn (λhp=>?_) (λ_=>go);have hp:=of_decide_eq_true hp;have hlt2:((i:Int)-1).toNat<a.Q.length:=by omega
    simp(disch:=omega)only[zL,zni,zaa hlt2,zad];exact sq_brn (λ_=>no 43 (by decide)) (λ_=>go)
 exact loop a.Q.length 0 (by omega) (by simp)
end
section
open Go.Ab Go.PureDiv
def fitR_VR{r:Rat}(h:(fitR r).2=0):VR (fitR r).1:=by
 unfold fitR at h ⊢;split at h
 .rename_i hf;rw[if_pos hf];exact fit_VR hf
 .cases h
def redR_VR(s:Bool)(n d:Nat)(hd:0<d)(h:(redR s n d).2=0):VR (redR s n d).1:=by rw[zBB s n d hd]at h ⊢;exact fitR_VR h
def s_rMul(a b:zbr):∃v,cw 207 [.agg (zaL a),.agg (zaL b)] []=some (zda v)/\(v.2=0->VR v.1):=by
 refine⟨_,c_rMulG a b,λh=>?_⟩;unfold mulR at h ⊢;split at h
 .rename_i hc;rw[if_pos hc];have h1:=hc.1.1;have h2:=hc.2.1;exact redR_VR _ _ _ (zgl (by omega) (by omega)) h
 .cases h
def s_rNew(a b:Int)(a1:-9223372036854775808<=a)(a2:a<9223372036854775808)(b1:-9223372036854775808<=b)(b2:b<9223372036854775808):∃v,cw 212 [I a,I b] []=some (zda v)/\(v.2=0->VR v.1):=by
 refine⟨_,c_rNewG a b a1 a2 b1 b2,λh=>?_⟩;unfold newR at h ⊢;split at h
 .cases h
 .rename_i hc;rw[if_neg hc];exact redR_VR _ _ _ (by omega) h
def newR_pos(a b:Nat)(ha:a<=1000000)(hb:0<b/\b<=1000000):(newR a b).2=0:=by unfold newR redR;have g:=Nat.gcd_pos_of_pos_right a hb.1;have h1:=zb5 a (Nat.gcd a b);have h2:=zb5 b (Nat.gcd a b);rw[iNQ];simp only[zdo];rw[if_pos ⟨by omega,by omega⟩];split<;>rfl
def s_rAdd(a b:zbr)(ha:VR a)(hb:VR b):∃v,cw 208 [.agg (zaL a),.agg (zaL b)] []=some (zda v)/\(v.2=0->VR v.1):=by obtain⟨x,hx,rfl⟩:=VR_fit ha;obtain⟨y,hy,rfl⟩:=VR_fit hb;exact⟨_,zBw x y hx hy,fitR_VR⟩
def zBC(a b:zbr)(ha:VR a)(hb:VR b):∃v,cw 142 [.agg (zaL a),.agg (zaL b)] []=some (zao v)/\Tr v:=by obtain⟨x,hx,rfl⟩:=VR_fit ha;obtain⟨y,hy,rfl⟩:=VR_fit hb;exact⟨_,zvc x y hx hy,trivial⟩
def totR_le(p:Bool)(a:Nat)(q:Bool)(b:Nat):(totR p a q b).2<=a+b:=by
 unfold totR;split
 .exact zav _
 .split<;>simp<;>omega
def s_rSum(l:List zbr):∃v,cw 226 [.sl 2 (mX l)] []=some (zda v)/\(v.2=0->VR v.1):=by
 refine zch (D:=zbl) (P:=λv=>v.2=0->VR v.1) (sat_of (λy=>zLc) ?_);have no:∀k:Int,k≠0->Sat (λy=>∃v:zbr×Int,y=zda v/\(v.2=0->VR v.1)) (some (AV.tup [AV.agg (zaL (⟨0,0⟩)),I k],([]:Mem))):=λk hk=>za1 ⟨(⟨0,0⟩,k),rfl,λh=>absurd h hk⟩
 refine sq_brn (λ_=>no 3 (by decide)) (λh0=>?_)
 have hl:l.length<=100:=by rw[zab]at h0;have:=of_decide_eq_false h0;omega
 have three:∀(d:Nat),0<d->d<=1152921504606846976->(∀r∈l,VR r)->∀k i:Nat,i+k=l.length->∀(t:Nat) (p:Bool),t<=i*1329227995784915872903807060280344576->Sat (λy=>∃v:zbr×Int,y=zda v/\(v.2=0->VR v.1)) (zp5 l (wd d) (wd t) p i):=by
  intro d hd0 hd hv k
  induction k with
  |zero =>
    intro i hi t p ht;have hi100:i*1329227995784915872903807060280344576<=100*1329227995784915872903807060280344576:=zbB _ (by omega);refine sat_of (λy=>zzy) ?_;rw[zaC (by rw[zab];omega)]
    have fin:∀s:Bool,Sat (λy=>∃v:zbr×Int,y=zda v/\(v.2=0->VR v.1)) (callD zbl (cw 221 [B s,sU (wd t),sU (wd d)] []) λr21=>some (AV.tup [AV.agg (zaL r21.1),I r21.2],[])):=λs=>by rw[zs4 s t d hd0 (by omega) (by omega),zcN];exact za1 ⟨_,rfl,redR_VR _ _ _ hd0⟩
    exact sq_brn (λ_=>fin _) (λ_=>fin _)
  |succ k ih =>
    intro i hi t p ht;have hlt:i<l.length:=by omega
    have hi100:i*1329227995784915872903807060280344576<=100*1329227995784915872903807060280344576:=zbB _ (by omega);obtain⟨v1,v2,v3,v4,v5⟩:=hv l[i] (zaq hlt);refine sat_of (λy=>zzy) ?_;simp(disch:=omega)only[zE,zvh,zaa hlt];have hq:d / l[i].Z.natAbs<=d:=zb5 _ _;have hqq:l[i].xf.natAbs*(d / l[i].Z.natAbs)<=1329227995784915872903807060280344576:=le120 (by omega) (by omega);have hlo:(wd (d / l[i].Z.natAbs)).Lo=((d / l[i].Z.natAbs:Nat):Int):=by rw[<-zlF (by omega)]
    rw[zf3 _ (by omega) (by omega),zcm,zlF (by omega),zs3 d _ (by omega) (by omega) (by omega),ziL,zf3 _ (by omega) (by omega),zcm];simp only[];rw[hlo,zhs _ _ (by omega) (by omega),zcz,zDp p t _ _ (by omega),zpm]
    have:=ih (i+1) (by omega) (totR p t (decide (l[i].xf<0)) (l[i].xf.natAbs*(d / l[i].Z.natAbs))).2 (totR p t (decide (l[i].xf<0)) (l[i].xf.natAbs*(d / l[i].Z.natAbs))).1 (by
     have:=totR_le p t (decide (l[i].xf<0)) (l[i].xf.natAbs*(d / l[i].Z.natAbs));rw[zg7]
     omega)
    rwa[show((i+1:Nat):Int)=(i:Int)+1 by omega]at this
 have two:(∀r∈l,VR r)->∀k i:Nat,i+k=l.length->∀d:Nat,0<d->d<=1152921504606846976->Sat (λy=>∃v:zbr×Int,y=zda v/\(v.2=0->VR v.1)) (zp4 l (wd d) i):=by
  intro hv k
  induction k with
  |zero=>intro i hi d hd0 hd;refine sat_of (λy=>zzx) ?_;rw[zaC (by rw[zab];omega)];exact three d hd0 hd hv l.length 0 (by omega) 0 false (by omega)
  |succ k ih =>
    intro i hi d hd0 hd;have hlt:i<l.length:=by omega
    obtain⟨v1,v2,v3,v4,v5⟩:=hv l[i] (zaq hlt);refine sat_of (λy=>zzx) ?_;simp(disch:=omega)only[zE,zvh,zaa hlt];have hg:0<Nat.gcd d l[i].Z.natAbs:=Nat.gcd_pos_of_pos_left _ hd0;have hg2:Nat.gcd d l[i].Z.natAbs<=d:=zhr hd0 (Nat.gcd_dvd_left _ _);have hq:l[i].Z.natAbs / Nat.gcd d l[i].Z.natAbs<=l[i].Z.natAbs:=zb5 _ _;have hq0:0<l[i].Z.natAbs / Nat.gcd d l[i].Z.natAbs:=Nat.div_pos (zhr (by omega) (zeA _ _)) hg;have hdq:=le120 hd (show l[i].Z.natAbs / Nat.gcd d l[i].Z.natAbs<=1152921504606846976 by omega);have hdq0:0<d*(l[i].Z.natAbs / Nat.gcd d l[i].Z.natAbs):=zgl hd0 hq0;have hlo:(wd (l[i].Z.natAbs / Nat.gcd d l[i].Z.natAbs)).Lo=((l[i].Z.natAbs / Nat.gcd d l[i].Z.natAbs:Nat):Int):=by rw[<-zlF (by omega)]
    have hld:(wd d).Lo=(d:Int):=by rw[<-zlF (by omega)]
    rw[zf3 _ (by omega) (by omega),zcm,zlF (by omega),zyq d _ (by omega) (by omega),zcz,zs3 _ _ hg (by omega) (by omega),ziL];simp only[];rw[hlo,hld,zhs _ _ (by omega) (by omega),zcz];refine sq_brn (λ_=>no 6 (by decide)) (λq1=>sq_brn (λ_=>no 6 (by decide)) (λq2=>?_));have q1:=of_decide_eq_false q1;have q2:=of_decide_eq_false q2;simp only[wd]at q1 q2;have hsm:d*(l[i].Z.natAbs / Nat.gcd d l[i].Z.natAbs)<=1152921504606846976:=by omega
    have:=ih (i+1) (by omega) _ hdq0 hsm
    rwa[show((i+1:Nat):Int)=(i:Int)+1 by omega]at this
 have one:∀k i:Nat,i+k=l.length->(∀r∈l.take i,VR r)->Sat (λy=>∃v:zbr×Int,y=zda v/\(v.2=0->VR v.1)) (zp3 l i):=by
  intro k
  induction k with
  |zero=>intro i hi hv;refine sat_of (λy=>zzw) ?_;rw[zaC (by rw[zab];omega)];rw[zar (by omega)]at hv;exact two hv l.length 0 (by omega) 1 (by omega) (by omega)
  |succ k ih =>
    intro i hi hv;have hlt:i<l.length:=by omega
    refine sat_of (λy=>zzw) ?_;simp(disch:=omega)only[zE,zvh,zaa hlt];rw[zmr,zaG];refine sq_brn (λ_=>no 1 (by decide)) (λh=>?_);have hvr:VR l[i]:=by simpa using h
    have:=ih (i+1) (by omega) (λr hr=>by
     rw[zdi,zaa hlt,ziK]at hr;rcases zaX.1 hr with h|h
     .exact hv r h
     . rw[zbs]at h;subst h
       exact hvr)
    rwa[show((i+1:Nat):Int)=(i:Int)+1 by omega]at this
 exact one l.length 0 (by omega) (by simp)
end
section
open Go.Ab
def FitU(a:zcf)(m:List zb3):Prop:=m.length=a.Q.length/\∀x∈m,VR x.q
def VR_nat{n:Int}(h:0<=n/\n<=1000000):VR ⟨n,1⟩:=⟨show(1:Int)<=1 by decide,show(1:Int)<=1152921504606846976 by decide,by show -1152921504606846976<=n;omega,by show n<=1152921504606846976;omega,by show Nat.gcd n.natAbs 1=1;exact Nat.gcd_one_right _⟩
def s_Fit(a:zcf)(m:List zb3)(ha:OkAw a):∃v,cw 143 [.agg (zc5 a),.sl 3 (mN m)] []=some (zao v)/\(v=true->FitU a m):=by
 refine zch (D:=zac) (P:=λv=>v=true->FitU a m) (sat_of (λy=>zLg) ?_);have no:Sat (λy=>∃v:Bool,y=zao v/\(v=true->FitU a m)) (some (B false,([]:Mem))):=za1 ⟨false,rfl,λh=>by cases h⟩;refine sq_brn (λ_=>no) (λh0=>?_);simp only[zab,bne_eq_false_iff_eq]at h0;obtain⟨⟨u1,u2⟩,u3,u4,u5⟩:=ha;have hlen:m.length=a.Q.length:=by omega
 have loop:∀k i:Nat,i+k=m.length->(∀x∈m.take i,VR x.q)->Sat (λy=>∃v:Bool,y=zao v/\(v=true->FitU a m)) (zp9 a m i):=by
  intro k
  induction k with
  |zero=>intro i hi hv;refine sat_of (λy=>zzC) ?_;rw[zaC (by rw[zab];omega)];rw[zar (by omega)]at hv;exact za1 ⟨true,rfl,λ_=>⟨hlen,hv⟩⟩
  |succ k ih =>
    intro i hi hv;have hlt:i<m.length:=by omega
    have hlu:i<a.Q.length:=by omega
    have tail:Sat (λy=>∃v:Bool,y=zao v/\(v=true->FitU a m)) (zmK a m i m[i]):=by
     refine sat_of (λy=>zD2) ?_;rw[zmr,zaG];refine sq_brn (λ_=>no) (λh=>sq_brn (λ_=>no) (λ_=>?_));have hvr:VR m[i].q:=by simpa using h
     simp(disch:=omega)only[zR,zni,zaa hlu];have hu:=(u3 a.Q[i] (zaq hlu)).2.2;refine zbq (D:=zac) (zBC ⟨a.Q[i].N,1⟩ m[i].q (VR_nat (by omega)) hvr) (λ_ _=>?_);refine sq_brn (λ_=>no) (λ_=>?_)
     have:=ih (i+1) (by omega) (λr hr=>by
      rw[zdi,zaa hlt,ziK]at hr;rcases zaX.1 hr with h|h
      .exact hv r h
      . rw[zbs]at h;subst h
        exact hvr)
     rwa[show((i+1:Nat):Int)=(i:Int)+1 by omega]at this
    refine sat_of (λy=>zzC) ?_;simp(disch:=omega)only[zE,znG,zaa hlt];rw[c_in36,zaG];exact sq_brn (λ_=>no) (λ_=>sq_brn (λ_=>sq_brn (λ_=>no) (λ_=>tail)) (λ_=>tail))
 exact loop m.length 0 (by omega) (by simp)
def s_mean(a:zcf)(m:List zb3)(ha:OkAw a)(hm:FitU a m):∃v,cw 211 [.agg (zc5 a),.sl 3 (mN m)] []=some (zoF v)/\((0<=v.1/\v.1<=6000)/\(v.2.2=0->VR v.2.1/\v.1≠0)):=by
 refine zch (D:=zmm) (P:=λv=>(0<=v.1/\v.1<=6000)/\(v.2.2=0->VR v.2.1/\v.1≠0)) (sat_of (λy=>zKa) ?_);obtain⟨⟨u1,u2⟩,u3,u4,u5⟩:=ha;obtain⟨hlen,hv⟩:=hm
 have no:∀k:Int,k≠0->Sat (λy=>∃v:Int×zbr×Int,y=zoF v/\((0<=v.1/\v.1<=6000)/\(v.2.2=0->VR v.2.1/\v.1≠0))) (some (AV.tup [I 0,AV.agg (zaL (⟨0,0⟩)),I k],([]:Mem))):=
  λk hk=>za1 ⟨(0,⟨0,0⟩,k),rfl,⟨show(0:Int)<=0 by decide,show(0:Int)<=6000 by decide⟩,λh=>absurd h hk⟩
 have loop:∀k i:Nat,i+k=m.length->∀(o:List zbr) (s:Int),o.length<=i->0<=s->s<=i*1000->Sat (λy=>∃v:Int×zbr×Int,y=zoF v/\((0<=v.1/\v.1<=6000)/\(v.2.2=0->VR v.2.1/\v.1≠0))) (zme a m (mX o) s i):=by
  intro k
  induction k with
  |zero=>intro i hi o s ho hs0 hs;refine sat_of (λy=>zx7) ?_;rw[zaC (by rw[zab];omega)];refine sq_brn (λ_=>no 10 (by decide)) (λh0=>?_);simp only[zU]at h0;rw[zam (by simp),zab,<-zd3,zbn];refine zbq (D:=zbl) (s_rSum o) (λv hv=>?_);exact za1 ⟨(s,v),rfl,⟨hs0,show s<=6000 by omega⟩,λh=>⟨hv h,h0⟩⟩
  |succ k ih =>
    intro i hi o s ho hs0 hs;have hlt:i<m.length:=by omega
    have hlu:i<a.Q.length:=by omega
    obtain⟨p1,p2,p3⟩:=u3 a.Q[i] (zaq hlu);refine sat_of (λy=>zx7) ?_;simp(disch:=omega)only[zE,znG,zni,zaa hlt,zaa hlu];refine sq_brn (λ_=>?_) (λ_=>?_)
    . have:=ih (i+1) (by omega) o s (by omega) hs0 (by omega)
      rwa[show((i+1:Nat):Int)=(i:Int)+1 by omega]at this
    . refine zbq (D:=zbl) (s_rNew _ _ (by omega) (by omega) (by omega) (by omega)) (λw hw=>?_);refine zbq (D:=zbl) (s_rMul m[i].q w.1) (λv hv2=>?_);refine sq_brn (λh=>?_) (λh=>?_)
      .exact za1 ⟨(0,⟨0,0⟩,v.2),rfl,⟨show(0:Int)<=0 by decide,show(0:Int)<=6000 by decide⟩,λh0=>by rw[show v.2=0 from h0]at h;cases h⟩
      . have hraw:mX o++[[I v.1.xf,I v.1.Z]]=mX (o++[v.1]):=by(try simp only[<-zbW zaL]);rfl
        simp(disch:=omega)only[zM,zI,hraw,zbW zaL,zam];have:=ih (i+1) (by omega) (o++[v.1]) (s+a.Q[i].xr) (by simp;omega) (by omega) (by omega)
        rwa[show((i+1:Nat):Int)=(i:Int)+1 by omega]at this
 exact loop m.length 0 (by omega) [] 0 (by simp) (by decide) (by decide)
def s_Exact36(a:zcf)(m:List zb3)(n:Int):∃v,cw 183 [.agg (zc5 a),.sl 3 (mN m),I n] []=some (zda v)/\(v.2=0->VR v.1):=by
 refine zch (D:=zbl) (P:=λv=>v.2=0->VR v.1) (sat_of (λy=>zIB) ?_);have no:∀k:Int,k≠0->Sat (λy=>∃v:zbr×Int,y=zda v/\(v.2=0->VR v.1)) (some (AV.tup [AV.agg (zaL (⟨0,0⟩)),I k],([]:Mem))):=λk hk=>za1 ⟨(⟨0,0⟩,k),rfl,λh=>absurd h hk⟩
 have noe:∀k:Int,(k !=0)=true->Sat (λy=>∃v:zbr×Int,y=zda v/\(v.2=0->VR v.1)) (some (AV.tup [AV.agg (zaL (⟨0,0⟩)),I k],([]:Mem))):=λk hk=>no k (by simpa using hk)
 refine zbq (D:=zaE) (zwo a) (λv hv=>sq_brn (λ_=>no 1 (by decide)) (λh=>?_));have ha:=hv (by simpa using h);refine zbq (D:=zac) (s_Fit a m ha) (λv hv=>sq_brn (λ_=>no 1 (by decide)) (λh=>?_));have hm:=hv (by simpa using h);rw[c_in36,zaG];refine sq_brn (λ_=>no 2 (by decide)) (λh=>?_)
 have hn:0<=n/\n<=50:=by rw[Bool.not_eq_false',ziB]at h;exact h
 have hml:m.length<=6:=by have:=ha.1;have:=hm.1;omega
 have hmax:=ha.2.2.1;refine ziy m.length (λi=>znT a m n i) ?_ (λi hi ih=>?_)
 . refine sat_of (λy=>zwL) ?_;rw[zaC (by rw[zab];omega)];refine zbq (D:=zmm) (s_mean a m ha hm) (λv hv=>sq_brn (λh=>noe _ h) (λh=>?_));obtain⟨hv1,hv2⟩:=hv;obtain⟨hv3,hv4⟩:=hv2 (by simpa using h);refine zbq (D:=zbl) (s_rNew a.N v.1 (by omega) (by omega) (by omega) (by omega)) (λw hw=>?_);refine zbq (D:=zbl) (s_rMul v.2.1 w.1) (λx hx=>sq_brn (λh=>noe _ h) (λh=>?_));have hx:=hx (by simpa using h);have hp0:0<=n*a.N:=Int.mul_nonneg (by omega) (by omega);have hp1:n*a.N<=50*200:=Int.le_trans (zeR hn.2 (by omega)) (zeX hmax.2 (by omega));rw[w6Q]
   have hw:(newR (n*a.N) 1000).2=0/\∃v,cw 212 [I (n*a.N),I 1000] []=some (zda v)/\VR v.1:=by
    obtain⟨k,hk⟩:=Int.eq_ofNat_of_zero_le hp0;rw[hk];have h1:(newR (k:Int) ((1000:Nat):Int)).2=0:=newR_pos k 1000 (by omega) (by omega);have h2:=c_rNewG (k:Int) ((1000:Nat):Int) (by omega) (by omega) (by omega) (by omega);refine⟨h1,_,h2,?_⟩;obtain⟨v',h3,h4⟩:=s_rNew (k:Int) ((1000:Nat):Int) (by omega) (by omega) (by omega) (by omega)
    have h5:v'=newR (k:Int) ((1000:Nat):Int):=by have:=h3.symm.trans h2;have:=congrArg (λo=>callD zbl o some) this;rw[zcN,zcN]at this;exact zbb this
    rw[h5]at h4;exact h4 h1
   refine zbq (D:=zbl) hw.2 (λw2 hw2=>?_);refine zbq (D:=zbl) (s_rAdd x.1 w2.1 hx hw2) (λz hz=>sq_brn (λh=>noe _ h) (λh=>?_));have hz:=hz (by simpa using h);have hM:=VR_nat (n:=a.N) (by omega)
   refine zbq (D:=zac) (zBC ⟨a.N,1⟩ z.1 hM hz) (λ_ _=>?_);exact sq_brn (λ_=>za1 ⟨(⟨a.N,1⟩,0),rfl,λ_=>hM⟩) (λ_=>za1 ⟨(z.1,0),rfl,λ_=>hz⟩)
 .refine sat_of (λy=>zwL) ?_;simp(disch:=omega)only[zE,znG,zaa hi];exact sq_brn (λ_=>no 8 (by decide)) (λ_=>ih)
end
section
open Go.Ab Go.Pure
def rndR_le{a:Rat}(ha:Fit a):-2000000000000000000<=rndR a/\rndR a<=2000000000000000000:=by
 obtain⟨h1,h2⟩:=ha;have hd:0<a.den:=a.den_pos;unfold rndR;have e:=Int.emod_add_mul_ediv (2*a.num+a.den) (2*a.den);have m0:=Int.emod_nonneg (2*a.num+a.den) (b:=2*(a.den:Int)) (by omega);have m1:=Int.emod_lt_of_pos (2*a.num+a.den) (b:=2*(a.den:Int)) (by omega);generalize (2*a.num+(a.den:Int)) / (2*(a.den:Int))=q at *;generalize (2*a.num+(a.den:Int)) % (2*(a.den:Int))=r at *;have hd1:(1:Int)<=a.den:=by omega
 constructor
 . rcases Int.le_total 0 q with h|h
   .omega
   .have h3:2*(a.den:Int)*q<=2*1*q:=Int.mul_le_mul_of_nonpos_right (by omega) h;omega
 . rcases Int.le_total 0 q with h|h
   .have h3:2*1*q<=2*(a.den:Int)*q:=zeR (by omega) h;omega
   .omega
def s_Total36(a:zcf)(m:List zb3)(n:Int):∃v,cw 144 [.agg (zc5 a),.sl 3 (mN m),I n] []=some (znf v)/\(-2000000000000000000<=v.1/\v.1<=2000000000000000000):=by
 refine zch (D:=zh2) (P:=λv=>-2000000000000000000<=v.1/\v.1<=2000000000000000000) (sat_of (λy=>zIC) ?_);refine zbq (D:=zbl) (s_Exact36 a m n) (λv hv=>sq_brn (λh=>?_) (λh=>?_))
 .exact za1 ⟨(0,v.2),rfl,show(-2000000000000000000:Int)<=0 by decide,show(0:Int)<=2000000000000000000 by decide⟩
 .obtain⟨x,hx,e⟩:=VR_fit (hv (by simpa using h));rw[e,c_rRoundF x hx,zcj];exact za1 ⟨(rndR x,0),rfl,rndR_le hx⟩
def OkDec(v:Int×Int×Int×Int):Prop:=(0<=v.1/\v.1<=2)/\(0<=v.2.1/\v.2.1<=1000)/\-2000000000000000000<=v.2.2.1/\v.2.2.1<=2000000000000000000
def s_Decide36(a:zcf)(m:List zb3)(n:Int):∃v,cw 100 [.agg (zc5 a),.sl 3 (mN m),I n] []=some (zmi v)/\OkDec v:=by
 refine zch (D:=zjY) (P:=OkDec) (sat_of (λy=>zF3) ?_)
 have no:∀j k:Int,0<=j->j<=2->Sat (λy=>∃v:Int×Int×Int×Int,y=zmi v/\OkDec v) (some (AV.tup [I j,I 0,I 0,I k],([]:Mem))):=
  λj k h1 h2=>za1 ⟨(j,0,0,k),rfl,⟨h1,h2⟩,⟨show(0:Int)<=0 by decide,show(0:Int)<=1000 by decide⟩,show(-2000000000000000000:Int)<=0 by decide,show(0:Int)<=2000000000000000000 by decide⟩
 refine zbq (D:=zaE) (zwo a) (λv hv=>sq_brn (λ_=>no 0 1 (by decide) (by decide)) (λh=>?_));have ha:=hv (by simpa using h);refine zbq (D:=zac) (s_Fit a m ha) (λv hv=>sq_brn (λ_=>no 0 1 (by decide) (by decide)) (λh=>?_));have hm:=hv (by simpa using h);rw[c_in36,zaG];refine sq_brn (λ_=>no 0 2 (by decide) (by decide)) (λ_=>?_);have hml:m.length<=6:=by have:=ha.1;have:=hm.1;omega
 have loop:∀k i:Nat,i+k=m.length->∀b:Bool,Sat (λy=>∃v:Int×Int×Int×Int,y=zmi v/\OkDec v) (zj9 a m n b i):=by
  intro k
  induction k with
  |zero=>intro i hi b;refine sat_of (λy=>zvN) ?_;rw[zaC (by rw[zab];omega)];refine sq_brn (λ_=>no 1 0 (by decide) (by decide)) (λ_=>?_);refine zbq (D:=zh2) (s_Total36 a m n) (λv hv=>sq_brn (λ_=>no 0 _ (by decide) (by decide)) (λ_=>?_));have:=ha.2.2.2;refine zbq (D:=zaE) (s_Grade a.W v.1 (by omega)) (λg hg=>?_);exact za1 ⟨(0,g,v.1,0),rfl,⟨show(0:Int)<=0 by decide,show(0:Int)<=2 by decide⟩,hg,hv⟩
  |succ k ih =>
    intro i hi b;have hlt:i<m.length:=by omega
    refine sat_of (λy=>zvN) ?_;simp(disch:=omega)only[zE,znG,zaa hlt];have go:=λb=>ih (i+1) (by omega) b
    rw[show((i+1:Nat):Int)=(i:Int)+1 by omega]at go;exact sq_brn (λ_=>no 2 0 (by decide) (by decide)) (λ_=>sq_brn (λ_=>go _) (λ_=>go _))
 exact loop m.length 0 (by omega) false
end
section
open Go.Ab
def OkSt(l:List zcb):Prop:=l.length<=60/\(∀s∈l,0<=s.b/\s.b<=9999)/\∀j (hj:j<l.length),0<j->(l[j-1]'(by omega)).b<l[j].b
def s_Check37(a:zcf)(l:List zcb):∃v,cw 99 [.agg (zc5 a),.sl 3 (mO l)] []=some (za9 v)/\(v=0->OkSt l):=by
 refine zch (D:=zaE) (P:=λv=>v=0->OkSt l) (sat_of (λy=>zID) ?_);have no:∀k:Int,k≠0->Sat (λy=>∃v:Int,y=za9 v/\(v=0->OkSt l)) (some (I k,([]:Mem))):=λk hk=>za1 ⟨k,rfl,λh=>absurd h hk⟩
 refine zbq (D:=zaE) (zwo a) (λv hv=>sq_brn (λ_=>no 1 (by decide)) (λh=>?_));have ha:=hv (by simpa using h);refine sq_brn (λ_=>no 3 (by decide)) (λh0=>?_)
 have hl:l.length<=60:=by rw[zab]at h0;have:=of_decide_eq_false h0;omega
 have loop:∀k i:Nat,i+k=l.length->(∀j (hj:j<l.length),j<i->(0<=l[j].b/\l[j].b<=9999)/\(0<j->(l[j-1]'(by omega)).b<l[j].b))->Sat (λy=>∃v:Int,y=za9 v/\(v=0->OkSt l)) (znU a l i):=by
  intro k
  induction k with
  |zero=>intro i hi hj;refine sat_of (λy=>zwM) ?_;rw[zaC (by rw[zab];omega)];refine za1 ⟨0,rfl,λ_=>⟨hl,λs hs=>?_,λj hj' h0=>(hj j hj' (by omega)).2 h0⟩⟩;obtain⟨j,hj',rfl⟩:=zdp hs;exact(hj j hj' (by omega)).1
  |succ k ih =>
    intro i hi hj;have hlt:i<l.length:=by omega
    have hlt2:((i:Int)-1).toNat<l.length:=by omega
    have tail:(0<=l[i].b/\l[i].b<=9999)->(0<i->(l[i-1]'(by omega)).b<l[i].b)->Sat (λy=>∃v:Int,y=za9 v/\(v=0->OkSt l)) (zlc a l i):=by
     intro q1 q2;refine sat_of (λy=>zBk) ?_;simp(disch:=omega)only[zE,znF,zaa hlt];refine zbq (D:=zac) (s_Fit a l[i].Q ha) (λ_ _=>sq_brn (λ_=>no 1 (by decide)) (λ_=>sq_brn (λ_=>no 2 (by decide)) (λ_=>sq_brn (λ_=>no 2 (by decide)) (λ_=>?_))))
     have:=ih (i+1) (by omega) (λj hj' hji=>by
      rcases zcs j i with h|h
      .exact hj j hj' h
      . have:j=i:=by omega
        subst this
        exact⟨q1,q2⟩)
     rwa[show((i+1:Nat):Int)=(i:Int)+1 by omega]at this
    refine sat_of (λy=>zwM) ?_;simp(disch:=omega)only[zE,znF,zaa hlt];refine sq_brn (λ_=>no 2 (by decide)) (λg1=>sq_brn (λ_=>no 2 (by decide)) (λg2=>?_));have g1:=of_decide_eq_false g1;have g2:=of_decide_eq_false g2;refine sq_brn (λhp=>?_) (λhp=>?_)
    . have hp:=of_decide_eq_true hp;simp(disch:=omega)only[zL,znF,zaa hlt2,zad];refine sq_brn (λ_=>no 43 (by decide)) (λg3=>?_);have g3:=of_decide_eq_false g3;refine tail ⟨by omega,by omega⟩ (λ_=>?_);have e:((i:Int)-1).toNat=i-1:=by omega
      simp only[e]at g3;omega
    .have hp:=of_decide_eq_false hp;exact tail ⟨by omega,by omega⟩ (λh=>absurd (show(0:Int)<i by omega) hp)
 exact loop l.length 0 (by omega) (λj _ h=>absurd h (by omega))
def OkU(o:zbo):Prop:=(0<=o.b/\o.b<=9999)/\(0<=o.k/\o.k<=2)/\(0<=o.R/\o.R<=1000)/\(-2000000000000000000<=o.xe/\o.xe<=2000000000000000000)/\0<=o.xn/\o.xn<=2
def OkOs(l:List zbo):Prop:=l.length<=60/\(∀o∈l,OkU o)/\∀j (hj:j<l.length),0<j->(l[j-1]'(by omega)).b<l[j].b
def zLF(a:zcf)(l:List zcb):∃v,cw 56 [.agg (zc5 a),.sl 3 (mO l)] []=some (zg5 v)/\OkOs v.1:=by
 refine zch (D:=zen) (P:=λv=>OkOs v.1) (sat_of (λy=>zER) ?_)
 have no:∀k:Int,Sat (λy=>∃v:List zbo×Int,y=zg5 v/\OkOs v.1) (some (AV.tup [AV.sl 5 (mJ []),I k],([]:Mem))):=
  λk=>za1 ⟨([],k),rfl,⟨by simp,by simp,λj hj=>absurd hj (by simp)⟩⟩
 refine zbq (D:=zaE) (s_Check37 a l) (λv hv=>sq_brn (λ_=>no _) (λh=>?_));obtain⟨h60,hc,hasc⟩:=hv (by simpa using h)
 have loop:∀k i:Nat,i+k=l.length->∀o:List zbo,o.length=i->(∀j (hj:j<o.length) (hj':j<l.length),o[j].b=l[j].b/\OkU o[j])->Sat (λy=>∃v:List zbo×Int,y=zg5 v/\OkOs v.1) (zhM a l (mJ o) i):=by
  intro k
  induction k with
  |zero =>
    intro i hi o ho hj;refine sat_of (λy=>zup) ?_;rw[zaC (by rw[zab];omega),zam (by simp)];have ht:List.take (mJ o).length (mJ o)=mJ o:=zbn;rw[ht];refine za1 ⟨(o,0),rfl,by show o.length<=60;omega,λx hx=>?_,λj (hj':j<o.length) h0=>?_⟩
    .obtain⟨j,hj',rfl⟩:=zdp hx;exact(hj j hj' (by have:j<o.length:=hj';omega)).2
    .have hj'':j<o.length:=hj';show(o[j-1]'(by omega)).b<o[j].b;rw[(hj j hj'' (by omega)).1,(hj (j-1) (by omega) (by omega)).1];exact hasc j (by omega) h0
  |succ k ih =>
    intro i hi o ho hj;have hlt:i<l.length:=by omega
    have hcl:=hc l[i] (zaq hlt);refine sat_of (λy=>zup) ?_;simp(disch:=omega)only[zE,znF,zaa hlt];refine zbq (D:=zjY) (s_Decide36 a l[i].Q l[i].xd) (λv hv=>sq_brn (λ_=>no _) (λ_=>?_))
    have next:∀q:Int,0<=q->q<=2->Sat (λy=>∃v:List zbo×Int,y=zg5 v/\OkOs v.1) (zhM a l (mJ (o++[⟨l[i].b,v.1,v.2.1,v.2.2.1,q⟩])) ((i:Int)+1)):=by
     intro q q0 q1
     have:=ih (i+1) (by omega) (o++[⟨l[i].b,v.1,v.2.1,v.2.2.1,q⟩]) (by simp;omega) (λj hj1 hj2=>by
      rcases zcs j o.length with h|h
      .rw[zdh h];exact hj j h hj2
      . have:j=o.length:=by simp at hj1;omega
        subst this;rw[zf1 (zav _)];simp only[Nat.sub_self,List.getElem_cons_zero,ho]
        exact⟨by first|trivial|rfl,hcl,hv.1,hv.2.1,hv.2.2,q0,q1⟩)
     rwa[show((i+1:Nat):Int)=(i:Int)+1 by omega]at this
    refine sq_brn (λ_=>?_) (λ_=>?_)
    . refine sat_of (λy=>zy2) ?_;have hraw:mJ o++[[I l[i].b,I v.1,I v.2.1,I v.2.2.1,I 2]]=mJ (o++[⟨l[i].b,v.1,v.2.1,v.2.2.1,2⟩]):=by(try simp only[<-zbW za8]);rfl
      simp(disch:=omega)only[zM,zL,zI,hraw,zbW za8];exact next 2 (by decide) (by decide)
    . refine sat_of (λy=>zxu) ?_;have hraw:mJ o++[[I l[i].b,I v.1,I v.2.1,I v.2.2.1,I 0]]=mJ (o++[⟨l[i].b,v.1,v.2.1,v.2.2.1,0⟩]):=by(try simp only[<-zbW za8]);rfl
      simp(disch:=omega)only[zM,zL,zI,hraw,zbW za8];exact next 0 (by decide) (by decide)
 exact loop l.length 0 (by omega) [] rfl (λj hj=>absurd hj (by simp))
def s_put43(l:aW)(e:zaV):∃v,cw 29 [.sl 6 (mB l),.agg (zax e)] []=some (zfW v)/\(v=l\/v=l++[e]/\l.length<256):=by
 refine zch (D:=zdZ) (P:=λv=>v=l\/v=l++[e]/\l.length<256) (sat_of (λy=>zLi) ?_);refine zbq (D:=zj0) (s_Append l e) (λv hv=>sq_brn (λh=>?_) (λh=>?_))
 .have:=hv (by simpa using h);exact za1 ⟨v.1,rfl,.inr this⟩
 .exact za1 ⟨l,rfl,.inl rfl⟩
def s_First(l:aU)(hl:l.length<=1000000)(ht:∀o∈l,-9223372036854775808<=o.p/\o.p<9223372036854775808):∃v,cw 27 [.sl 31 (mE l)] []=some (za9 v)/\(-9223372036854775808<=v/\v<9223372036854775808):=by
 refine zch (D:=zaE) (P:=λv=>-9223372036854775808<=v/\v<9223372036854775808) (sat_of (λy=>zIO) ?_);refine ziy l.length (λi=>znY l i) ?_ (λi hi ih=>?_)
 .refine sat_of (λy=>zwW) ?_;rw[zaC (by rw[zab];omega)];exact za1 ⟨-1,rfl,show(-9223372036854775808:Int)<=-1 by decide,show(-1:Int)<9223372036854775808 by decide⟩
 .refine sat_of (λy=>zwW) ?_;simp(disch:=omega)only[zE,zhW,zaa hi];exact sq_brn (λ_=>za1 ⟨_,rfl,ht _ (zaq hi)⟩) (λ_=>ih)
def s_issued(l:aW)(hl:l.length<=1000000):∃v,cw 59 [.sl 6 (mB l)] []=some (za9 v)/\(0<=v/\v<=l.length):=by
 refine zch (D:=zaE) (P:=λv=>0<=v/\v<=l.length) (sat_of (λy=>zGa) ?_)
 have loop:∀k i:Nat,i+k=l.length->∀n:Int,0<=n->n<=i->Sat (λy=>∃v:Int,y=za9 v/\(0<=v/\v<=l.length)) (zkc l n i):=by
  intro k
  induction k with
  |zero=>intro i hi n h0 h1;refine sat_of (λy=>zvU) ?_;rw[zaC (by rw[zab];omega)];exact za1 ⟨n,rfl,h0,by omega⟩
  |succ k ih =>
    intro i hi n h0 h1;have hlt:i<l.length:=by omega
    refine sat_of (λy=>zvU) ?_;simp(disch:=omega)only[zE,zgD,zaa hlt];have g1:=ih (i+1) (by omega) (n+1) (by omega) (by omega);have g2:=ih (i+1) (by omega) n h0 (by omega);rw[show((i+1:Nat):Int)=(i:Int)+1 by omega]at g1 g2;exact sq_brn (λ_=>g1) (λ_=>g2)
 exact loop l.length 0 (by omega) 0 (by decide) (by decide)
def s_current(l:aW)(n:Int)(hl:l.length<=1000):∃v,cw 58 [.sl 6 (mB l),I n] []=some (zrG v)/\(v.1=⟨0,0,0,0,0⟩\/∃e∈l,v.1=e.a):=by
 refine zch (D:=zfk) (P:=λv=>v.1=⟨0,0,0,0,0⟩\/∃e∈l,v.1=e.a) (sat_of (λy=>zEY) ?_);refine zbq (D:=zgH) (zGY l) (λc hc=>?_);obtain⟨h1,h2⟩:=hc;refine ziy c.length (λi=>zlS n c i) ?_ (λi hi ih=>?_)
 .refine sat_of (λy=>zuE) ?_;rw[zaC (by rw[zab];omega)];exact za1 ⟨(⟨0,0,0,0,0⟩,false),rfl,.inl rfl⟩
 .refine sat_of (λy=>zuE) ?_;simp(disch:=omega)only[zE,zaI,ziO,zaa hi];exact sq_brn (λ_=>za1 ⟨(c[i],true),rfl,.inr (h2 _ (zaq hi))⟩) (λ_=>ih)
def CertW(c:zbH):Prop:=W64 c.ID/\W64 c.b/\W64 c.R/\W64 c.p/\W64 c.K
def LogOk(l:aW):Prop:=l.length<=256/\∀e∈l,CertW e.a
def s_putL(l:aW)(e:zaV)(hl:LogOk l)(he:CertW e.a):∃v,cw 29 [.sl 6 (mB l),.agg (zax e)] []=some (zfW v)/\LogOk v:=by
 obtain⟨v,h1,h2⟩:=s_put43 l e;refine⟨v,h1,?_⟩;rcases h2 with rfl|⟨rfl,h⟩
 .exact hl
 . refine⟨by simp;omega,λx hx=>?_⟩;rcases zaX.1 hx with h|h
   .exact hl.2 x h
   .rw[zbs]at h;subst h;exact he
def w64_0:W64 0:=⟨by decide,by decide⟩
def s_certify(l:aW)(o:List zbo)(t:Int)(hl:LogOk l)(ho:o.length<=1000)(hw:∀x∈o,W64 x.b/\W64 x.R)(ht:W64 t):∃v,cw 28 [.sl 6 (mB l),.sl 5 (mJ o),I t] []=some (zfW v)/\LogOk v:=by
 refine zch (D:=zdZ) (P:=LogOk) (sat_of (λy=>zEX) ?_)
 have two:∀(c:List zbH),(∀x∈c,CertW x)->c.length<=256->∀k i:Nat,i+k=c.length->∀l:List zaV,LogOk l->Sat (λy=>∃v:List zaV,y=zfW v/\LogOk v) (zjw o t c (mB l) i):=by
  intro c hc hcl k
  induction k with
  |zero=>intro i hi l hl;refine sat_of (λy=>zuC) ?_;rw[zaC (by rw[zab];omega)];exact za1 ⟨l,rfl,hl⟩
  |succ k ih =>
    intro i hi l hl;have hlt:i<c.length:=by omega
    have inner:∀m j:Nat,j+m=o.length->∀b:Bool,Sat (λy=>∃v:List zaV,y=zfW v/\LogOk v) (zhQ o t c (mB l) i b j):=by
     intro m
     induction m with
     |zero =>
       intro j hj b;refine sat_of (λy=>zuD) ?_;rw[zaC (by rw[zab];omega)];simp(disch:=omega)only[zR,zab,zaI,ziO,zaa hlt];refine sq_brn (λ_=>?_) (λ_=>?_)
       . refine zbq (D:=zdZ) (s_putL l ⟨1,⟨c[i].ID,0,0,t,0⟩⟩ hl ⟨(hc _ (zaq hlt)).1,w64_0,w64_0,ht,w64_0⟩) (λv hv=>?_);have:=ih (i+1) (by omega) v hv
         rwa[show((i+1:Nat):Int)=(i:Int)+1 by omega]at this
       . have:=ih (i+1) (by omega) l hl
         rwa[show((i+1:Nat):Int)=(i:Int)+1 by omega]at this
     |succ m ihm =>
       intro j hj b;have hjo:j<o.length:=by omega
       have go:=λb=>ihm (j+1) (by omega) b
       rw[show((j+1:Nat):Int)=(j:Int)+1 by omega]at go;refine sat_of (λy=>zuD) ?_;simp(disch:=omega)only[zE,zaI,zjT,ziO,zaa hlt,zaa hjo];exact sq_brn (λ_=>go _) (λ_=>sq_brn (λ_=>go _) (λ_=>go _))
    refine sat_of (λy=>zuC) ?_;rw[zaz (by rw[zab];omega)];exact inner o.length 0 (by omega) false
 have one:∀k i:Nat,i+k=o.length->∀l:List zaV,LogOk l->Sat (λy=>∃v:List zaV,y=zfW v/\LogOk v) (zhP o t (mB l) i):=by
  intro k
  induction k with
  |zero=>intro i hi l hl;refine sat_of (λy=>zuB) ?_;rw[zaC (by rw[zab];omega)];refine zbq (D:=zgH) (zGY l) (λc hc=>?_);exact two c (λx hx=>by obtain⟨e,he,rfl⟩:=hc.2 x hx;exact hl.2 e he) (by have:=hc.1;have:=hl.1;omega) c.length 0 (by omega) l hl
  |succ k ih =>
    intro i hi l hl;have hlt:i<o.length:=by omega
    have stay:=ih (i+1) (by omega) l hl;rw[show((i+1:Nat):Int)=(i:Int)+1 by omega]at stay;have hx:=hw _ (zaq hlt)
    have add:∀r3:zbH×Bool,W64 r3.1.ID->Sat (λy=>∃v:List zaV,y=zfW v/\LogOk v) (zjN o t (mB l) i r3):=by
     intro r3 hr;refine sat_of (λy=>zy6) ?_;refine zbq (D:=zaE) (s_issued l (by have:=hl.1;omega)) (λn hn=>?_);have hl1:=hl.1;have hn1:W64 (n+1):=by have h1:=hn.1;have h2:=hn.2;exact⟨by omega,by omega⟩
     simp(disch:=omega)only[zR,zjT,zaa hlt];refine zbq (D:=zdZ) (s_putL l ⟨0,⟨n+1,o[i].b,o[i].R,t,r3.1.ID⟩⟩ hl ⟨hn1,hx.1,hx.2,ht,hr⟩) (λv hv=>?_);have:=ih (i+1) (by omega) v hv
     rwa[show((i+1:Nat):Int)=(i:Int)+1 by omega]at this
    refine sat_of (λy=>zuB) ?_;simp(disch:=omega)only[zE,zjT,zaa hlt];refine zbq (D:=zfk) (s_current l _ (by have:=hl.1;omega)) (λv hv=>?_)
    have hr:W64 v.1.ID:=by
     rcases hv with h|⟨e,he,h⟩
     .rw[h];exact w64_0
     .rw[h];exact(hl.2 e he).1
    exact sq_brn (λ_=>sq_brn (λ_=>add v hr) (λ_=>sq_brn (λ_=>add v hr) (λ_=>stay))) (λ_=>stay)
 exact one o.length 0 (by omega) l hl
def s_special(l:aU)(n:Int)(hl:l.length<=1000000):∃v,cw 97 [.sl 31 (mE l),I n] []=some (za9 v)/\Tr v:=by
 refine zch (D:=zaE) (P:=Tr) (sat_of (λy=>zEZ) ?_)
 have loop:∀k i:Nat,i+k=l.length->∀s:Int,Sat (λy=>∃v:Int,y=za9 v/\Tr v) (zhR l n s i):=by
  intro k
  induction k with
  |zero=>intro i hi s;refine sat_of (λy=>zuF) ?_;rw[zaC (by rw[zab];omega)];exact za1 ⟨s,rfl,trivial⟩
  |succ k ih =>
    intro i hi s;have hlt:i<l.length:=by omega
    have go:=λs=>ih (i+1) (by omega) s
    rw[show((i+1:Nat):Int)=(i:Int)+1 by omega]at go;refine sat_of (λy=>zuF) ?_;simp(disch:=omega)only[zE,zhW,zaa hlt];exact sq_brn (λ_=>sq_brn (λ_=>go _) (λ_=>go _)) (λ_=>go _)
 exact loop l.length 0 (by omega) 0
def s_less43(a b:aQ)(hl:a.length<=1000000):∃v,cw 101 [.sl 1 (List.map zaj a),.sl 1 (List.map zaj b)] []=some (zao v)/\Tr v:=by
 refine zch (D:=zac) (P:=Tr) (sat_of (λy=>zKg) ?_);refine ziy a.length (λi=>zo5 a b i) ?_ (λi hi ih=>?_)
 .refine sat_of (λy=>zyc) ?_;rw[zaC (by rw[zab];omega)];exact za1 ⟨_,rfl,trivial⟩
 . refine sat_of (λy=>zyc) ?_;rw[zaz (by rw[zab];omega)];refine sq_brn (λh=>?_) (λ_=>za1 ⟨_,rfl,trivial⟩);have h:=of_decide_eq_true h;rw[zab]at h;have hb:i<b.length:=by omega
   simp(disch:=omega)only[zR,zcc,zaa hi,zaa hb];exact sq_brn (λ_=>za1 ⟨_,rfl,trivial⟩) (λ_=>ih)
def c_in43(a b c:Int):cw 92 [I a,I b,I c] []=some (zao (dec (b<=a/\a<=c))):=by
 refine e_ref43_in ?_;simp only[zS];split
 .rw[show decide (a<=c)=dec (b<=a/\a<=c)from zij (by simp only[decide_eq_true_eq];omega)];rfl
 .rw[zb1 (by omega)];rfl
def s_entry(e:zcL):∃v,cw 87 [.agg (zbD e)] []=some (zao v)/\(v=true->(0<=e.b/\e.b<=9999)/\(0<=e.w/\e.w<=99)/\0<=e.v/\e.v<=31):=by refine zch (D:=zac) (P:=λv=>v=true->(0<=e.b/\e.b<=9999)/\(0<=e.w/\e.w<=99)/\0<=e.v/\e.v<=31) (sat_of (λy=>zIQ) ?_);rw[c_in43,zaG];refine sq_brn (λh1=>?_) (λ_=>za1 ⟨false,rfl,λh=>by cases h⟩);rw[c_in43,zaG];refine sq_brn (λh2=>?_) (λ_=>za1 ⟨false,rfl,λh=>by cases h⟩);rw[c_in43,zaG];exact za1 ⟨_,rfl,λh3=>⟨ziB.1 h1,ziB.1 h2,ziB.1 h3⟩⟩
def s_code(r:zbF)(n:Int)(hl:r.h.length<=1000000):∃v,cw 85 [.agg (zbz r),I n] []=some (zao v)/\Tr v:=by
 refine zch (D:=zac) (P:=Tr) (sat_of (λy=>zKf) ?_);refine ziy r.h.length (λi=>zo4 r n i) ?_ (λi hi ih=>?_)
 .refine sat_of (λy=>zyb) ?_;rw[zaC (by rw[zab];omega)];exact za1 ⟨false,rfl,trivial⟩
 .refine sat_of (λy=>zyb) ?_;simp(disch:=omega)only[zE,zdF,zaa hi];exact sq_brn (λ_=>za1 ⟨true,rfl,trivial⟩) (λ_=>ih)
def s_before(a b:zcL):∃v,cw 139 [.agg (zbD a),.agg (zbD b)] []=some (zao v)/\Tr v:=
 zch (D:=zac) (P:=Tr) (sat_of (λy=>zF9) (sq_brn (λ_=>za1 ⟨_,rfl,trivial⟩) (λ_=>sq_brn (λ_=>za1 ⟨_,rfl,trivial⟩) (λ_=>za1 ⟨_,rfl,trivial⟩))))
def zKt(l:List zcL)(hl:l.length<=1000000):∃v,cw 96 [.sl 3 (mM l)] []=some (zdq v)/\v.length<=l.length:=by
 refine zch (D:=zdr) (P:=λv=>v.length<=l.length) (sat_of (λy=>zAO) ?_)
 have loop:∀k i:Nat,i+k=l.length->∀o:List Int,o.length<=i->Sat (λy=>∃v:List Int,y=zdq v/\v.length<=l.length) (zhC l (List.map zaj o) i):=by
  intro k
  induction k with
  |zero=>intro i hi o ho;refine sat_of (λy=>zrU) ?_;rw[zaC (by rw[zab];omega),zam rfl];exact za1 ⟨o,rfl,by omega⟩
  |succ k ih =>
    intro i hi o ho;have hlt:i<l.length:=by omega
    have add:Sat (λy=>∃v:List Int,y=zdq v/\v.length<=l.length) (zia l (List.map zaj o) i):=by
     refine sat_of (λy=>zv1) ?_;simp(disch:=omega)only[zE,zl7,zaa hlt];have hraw:List.map zaj o++[[I l[i].b]]=List.map zaj (o++[l[i].b]):=by(try simp only[<-zbW zaj]);rfl
     simp(disch:=omega)only[zI,hraw,zbW zaj,zam];have:=ih (i+1) (by omega) (o++[l[i].b]) (by simp;omega)
     rwa[show((i+1:Nat):Int)=(i:Int)+1 by omega]at this
    refine sat_of (λy=>zrU) ?_;rw[zaz (by rw[zab];omega)];refine sq_brn (λ_=>add) (λh=>?_);simp only[zU,zab]at h;have hlo:((o.length:Int)-1).toNat<o.length:=by omega
    simp(disch:=omega)only[zR,zab,zaI,zl7,zcc,zaa hlt,zaa hlo];refine sq_brn (λ_=>add) (λ_=>?_);have:=ih (i+1) (by omega) o (by omega)
    rwa[show((i+1:Nat):Int)=(i:Int)+1 by omega]at this
 exact loop l.length 0 (by omega) [] (by simp)
def zGZ(l:aU)(hl:l.length<=1000000):∃v,cw 95 [.sl 31 (mE l)] []=some (zhF v)/\v.length<=l.length:=by
 refine zch (D:=zgI) (P:=λv=>v.length<=l.length) (sat_of (λy=>zEU) ?_)
 have loop:∀(m i:Nat) (o:List zcL),i+m=l.length->o.length<=i->Sat (λy=>∃v:List zcL,y=zhF v/\v.length<=l.length) (zgv l (mM o) o.length (i:Nat)):=by
  intro m
  induction m with
  |zero=>intro i o hi ho;refine sat_of (λy=>zut) ?_;rw[zaC (by rw[zab];omega),zam (by rw[zab])];exact za1 ⟨o,rfl,by omega⟩
  |succ m ih =>
    intro i o hi ho;have hlt:i<l.length:=by omega
    have stay:=ih (i+1) o (by omega) (by omega);rw[show((i+1:Nat):Int)=(i:Int)+1 by omega]at stay
    have ins:∀k:Nat,k<=o.length->Sat (λy=>∃v:List zcL,y=zhF v/\v.length<=l.length) (zjL l (mM o) o.length (i:Nat) l[i] (k:Nat)):=by
     intro k hk;refine sat_of (λy=>zy4) ?_;have hraw:mM o++[[I l[i].A.b,I l[i].A.w,I l[i].A.v]]=mM (o++[l[i].A]):=by(try simp only[<-zbW zbD]);rfl
     have hA:(o++[l[i].A]).length=o.length+1:=by simp
     have hk1:((k:Int)+1).toNat=k+1:=by omega
     simp(disch:=omega)only[zW,zL,hraw,zbW zbD,hk1,zae,hA,<-zd3,<-ze5,<-zct,zgx zbD,zbN];have hXl:=zwr (k:=k) hA (by omega);generalize (List.take (k+1) (o++[l[i].A])++List.take (o.length+1-(k+1)) (List.take (o.length+1-k) (List.drop k (o++[l[i].A])))++List.drop (k+1+Min.min (List.take (o.length+1-k) (List.drop k (o++[l[i].A]))).length (o.length+1-(k+1))) (o++[l[i].A]))=X at hXl ⊢;have hkX:k<X.length:=by omega
     simp(disch:=omega)only[zl7,zaa hkX,zad];have:=ih (i+1) (X.set k l[i].A) (by omega) (by rw[zbN];omega);rw[zbN,hXl,show((i+1:Nat):Int)=(i:Int)+1 by omega]at this;exact this
    have go:∀k:Nat,k<=o.length->Sat (λy=>∃v:List zcL,y=zhF v/\v.length<=l.length) (zlQ l (mM o) o.length (i:Nat) l[i] (k:Nat)):=by
     intro k
     induction k with
     |zero=>intro hk;refine sat_of (λy=>zuv) ?_;rw[zaC (by omega)];exact ins 0 hk
     |succ k ihk =>
       intro hk;have hko:k<o.length:=by omega
       have hk1:((k+1:Nat):Int)-1=k:=by omega
       refine sat_of (λy=>zuv) ?_;simp(disch:=omega)only[zR,zaz,hk1,zaI,zl7,zaa hko];exact zbq (D:=zac) (s_before _ _) (λ_ _=>sq_brn (λ_=>ihk (by omega)) (λ_=>ins (k+1) hk))
    have two:∀n j:Nat,j+n=l.length->∀b:Bool,Sat (λy=>∃v:List zcL,y=zhF v/\v.length<=l.length) (zeS l (mM o) o.length (i:Nat) l[i] b j):=by
     intro n
     induction n with
     |zero=>intro j hj b;refine sat_of (λy=>zuu) ?_;rw[zaC (by rw[zab];omega)];simp(disch:=omega)only[w64_id];exact sq_brn (λ_=>stay) (λ_=>go o.length (zav _))
     |succ n ihn =>
       intro j hj b;have hlj:j<l.length:=by omega
       have nx:=λb=>ihn (j+1) (by omega) b
       rw[show((j+1:Nat):Int)=(j:Int)+1 by omega]at nx;refine sat_of (λy=>zuu) ?_;simp(disch:=omega)only[zE,zhW,zaa hlj];refine sq_brn (λ_=>zbq (D:=zac) (s_entry _) (λ_ _=>?_)) (λ_=>nx _)
       repeat' first
        |with_reducible refine sq_brn (λ_=>?_) (λ_=>?_)
        |with_reducible exact nx _
    refine sat_of (λy=>zut) ?_;simp(disch:=omega)only[zE,zhW,zaa hlt];refine sq_brn (λ_=>stay) (λ_=>?_);refine zbq (D:=zac) (s_entry _) (λ_ _=>?_);exact sq_brn (λ_=>stay) (λ_=>two l.length 0 (by omega) true)
 exact loop l.length 0 [] (by omega) (by simp)
def ztA(s:zb8):cw 116 [.agg (zde s)] []=some (zao (dec (zuV s))):=by
 refine zIj ?_;simp only[zS]
 repeat' split
 all_goals first
  |(rw[zb1 (by unfold zuV;omega)];rfl)
  |(rw[show decide (s.S<=9999)=dec (zuV s)from zij (by simp only[decide_eq_true_eq];unfold zuV;omega)];rfl)
def zuH(a b c:Int):cw 138 [I a,I b,I c] []=some (zao (dec (b<=a/\a<=c))):=by
 refine e_ref28_in ?_;simp only[zS];split
 .rw[show decide (a<=c)=dec (b<=a/\a<=c)from zij (by simp only[decide_eq_true_eq];omega)];rfl
 .rw[zb1 (by omega)];rfl
def zzo(e:zak):cw 91 [.agg (zah e)] []=some (zao (dec (zBr e))):=by
 refine zIs ?_;simp only[ztA,zuH,zaG,zaG,zab];by_cases h1:zuV e.c
 . by_cases h2:0<=e.g/\e.g<=319999
   . by_cases h3:e.r.length<=12
     . simp(disch:=omega)only[zQ,zbP h1,zbP h2,zaC];have H:=zyi e.r.length (λj hj=>0<=e.r[j]/\e.r[j]<=1152921504606846976) (λi=>znN e i) (λb=>zao (b&&dec (OkKind e))) ?_ ?_ ?_
       .rw[H];congr 2;rw[zek];simp only[zaU,ziB,zBr];rw[zBs (G:=λn=>0<=n/\n<=1152921504606846976)];exact⟨λ⟨a,b⟩=>⟨h1,h2,h3,a,b⟩,λ⟨_,_,_,a,b⟩=>⟨a,b⟩⟩
       . refine zrT ?_;simp(disch:=omega)only[zN,zuH,zaG,zdK];simp only[zS,beq_iff_eq,ziB]
         repeat' split
         all_goals first
          |(rw[zb1 (by unfold OkKind;omega)];rfl)
          |(refine congrArg some (congrArg zao (?_:_=dec (OkKind e)):_=zao _)
            refine zij ?_;simp only[beq_iff_eq];unfold OkKind
            omega)
       .intro i hi hn;refine zrT ?_;simp(disch:=omega)only[zY,zV,zcc,zaa hi,zuH,zaG,zb1 hn,zeW];rfl
       .intro i hi y hg hk;refine zrT ?_;simp(disch:=omega)only[zQ,zE,zcc,zaa hi,zuH,zaG,zbP hg,hk]
     .simp(disch:=omega)only[zQ,zbP h1,zbP h2,zaz];rw[zb1 (λh=>h3 h.2.2.1)];rfl
   .simp only[zY,zQ,zbP h1,zb1 h2];rw[zb1 (λh=>h2 h.2.1)];rfl
 .simp only[zY,zb1 h1];rw[zb1 (λh=>h1 h.1)];rfl
def zCw(a b:aQ)(hl:a.length<=1000000):cw 161 [.sl 1 (List.map zaj a),.sl 1 (List.map zaj b)] []=some (zao (dec (a=b))):=by
 refine zue ?_;by_cases h:a.length=b.length
 . simp only[zJ,zab,h];have H:=zyi a.length (λj hj=>a[j]=b[j]'(by omega)) (λi=>zgO a b i) zao ?_ ?_ ?_
   .rw[H,zl6];exact⟨λhh=>List.ext_getElem h (λi h1 h2=>hh i h1),λhh=>by subst hh;intros;rfl⟩
   .exact zie (by simp(disch:=omega)only[zN];rfl)
   .intro i hi hn;refine zie ?_;simp(disch:=omega)only[zV,zcc,zaa hi,zaa (show i<b.length by omega),show(a[i] !=b[i]'(by omega))=true by simpa using hn,zaM];rfl
   .intro i hi y hn hk;refine zie ?_;simp(disch:=omega)only[zE,zcc,zaa hi,zaa (show i<b.length by omega),show(a[i] !=b[i]'(by omega))=false by simpa using hn,zaB,hk]
 .rw[zb1 (λhh=>h (by rw[hh]))];simp only[zab,show((a.length:Int) !=(b.length:Int))=true by simp only[bne_iff_ne,ne_eq];omega,zaM];rfl
def zJN(a b:zak)(hl:a.r.length<=1000000):cw 185 [.agg (zah a),.agg (zah b)] []=some (zao (dec (a=b))):=by
 refine zJ5 ?_;obtain⟨⟨a1,a2,a3⟩,a4,a5,a6,a7,a8,a9⟩:=a;obtain⟨⟨b1,b2,b3⟩,b4,b5,b6,b7,b8,b9⟩:=b;simp only[zfZ,beq_iff_eq,zaU,ziz,zCw _ _ hl,zaG]
 repeat' split
 all_goals first
  |(rw[zb1 (by simp only[zak.mk.injEq,zb8.mk.injEq];omega)];rfl)
  |(refine congrArg some (congrArg zao (zl6 ?_):_=zao _)
    simp only[zak.mk.injEq,zb8.mk.injEq]
    simp[*])
def zq4(a b:zb8):cw 153 [.agg (zde a),.agg (zde b)] []=some (zao (lessS a b)):=by
 refine zJ4 ?_;unfold lessS;simp only[zfZ,bne_iff_ne];split
 .rfl
 .split<;>rfl
def zFP(a b:zak):cw 186 [.agg (zah a),.agg (zah b)] []=some (zao (lessS a.c b.c)):=by refine zF0 ?_;simp only[zq4,zaG];rfl
def leE(a b:zak):Bool:=!lessS b.c a.c
def merge_loop(a b:aP)(ha:a.length<=100000)(hb:b.length<=100000):∀(n i j:Nat) (out:aP),(a.length-i)+(b.length-j)=n->i<=a.length->j<=b.length->out.length<=i+j->zmd a b (mA out) i j=some (zga (out++List.merge (a.drop i) (b.drop j) leE)):=by
 intro n
 induction n with
 |zero=>intro i j out hn hi hj ho;refine zx4 ?_;simp(disch:=omega)only[zI,zaC];rw[zc0 (show a.length<=i by omega),zc0 (show b.length<=j by omega)];simp only[List.merge,zf0];rfl
 |succ n ih =>
   intro i j out hn hi hj ho
   have ta:∀hlt:i<a.length,List.merge (a.drop i) (b.drop j) leE=a[i]::List.merge (a.drop (i+1)) (b.drop j) leE->zlN a b (mA out) i j=some (zga (out++List.merge (a.drop i) (b.drop j) leE)):=by intro hlt hm;refine zCi ?_;have h2:=ih (i+1) j (out++[a[i]]) (by omega) (by omega) hj (by simp;omega);rw[zcA,zeY,<-hm]at h2;simp(disch:=omega)only[zW,zR,zdN,zaa hlt,zbW zah];exact h2
   have tb:∀hlt:j<b.length,List.merge (a.drop i) (b.drop j) leE=b[j]::List.merge (a.drop i) (b.drop (j+1)) leE->zlO a b (mA out) i j=some (zga (out++List.merge (a.drop i) (b.drop j) leE)):=by intro hlt hm;refine zCj ?_;have h2:=ih i (j+1) (out++[b[j]]) (by omega) hi (by omega) (by simp;omega);rw[zcA,zeY,<-hm]at h2;simp(disch:=omega)only[zW,zR,zdN,zaa hlt,zbW zah];exact h2
   have mid:zlM a b (mA out) i j=some (zga (out++List.merge (a.drop i) (b.drop j) leE)):=by
    refine zCh ?_;by_cases hjb:j=b.length
    .simp only[zab,show((j:Int)==(b.length:Int))=true by simp[hjb],zaM];refine ta (by omega) ?_;rw[zc0 (show b.length<=j by omega),zbE (show i<a.length by omega)];simp[List.merge]
    . have hjl:j<b.length:=by omega
      have hne:((j:Int)==(b.length:Int))=false:=by simp only[zU];omega
      by_cases hia:i<a.length
      . have hm:=zbE hia;have hm2:=zbE hjl;simp(disch:=omega)only[zV,hne,zaB,zaI,zdN,zaa hia,zaa hjl,zFP,zaG]
        cases hls:lessS b[j].c a[i].c with
        |false=>simp only[zY];refine ta hia ?_;rw[hm,hm2,List.merge,if_pos (by simp[leE,hls])]
        |true=>simp only[zQ];refine tb hjl ?_;rw[hm,hm2,List.merge,if_neg (by simp[leE,hls])]
      .simp(disch:=omega)only[zN,hne,zaB];refine tb hjl ?_;rw[zc0 (show a.length<=i by omega),zbE hjl];simp[List.merge]
   refine zx4 ?_;by_cases hia:i<a.length
   .simp(disch:=omega)only[zab,zaz];exact mid
   .simp(disch:=omega)only[zN,zaz];exact mid
def zLu{a b c:zb8}(h1:lessS b a=false)(h2:lessS c b=false):lessS c a=false:=by
 unfold lessS at *
 repeat' split at h1
 all_goals repeat' split at h2
 all_goals repeat' split
 all_goals simp only[decide_eq_false_iff_not]at *
 all_goals omega
def zLt(a b:zb8):lessS a b=false\/lessS b a=false:=by
 unfold lessS
 repeat' split
 all_goals simp only[decide_eq_false_iff_not]
 all_goals omega
def leE_trans(a b c:zak)(h1:leE a b=true)(h2:leE b c=true):leE a c=true:=by simp only[leE,zed]at *;exact zLu h1 h2
def leE_total(a b:zak):(leE a b||leE b a)=true:=by simp only[leE,zdS,zed];exact zLt _ _
def zJO:∀(n:Nat) (l:aP),l.length<=n->l.length<=100000->∃r,cw 156 [.sl 9 (mA l)] []=some (zga r)/\r.Perm l/\r.Pairwise (λa b=>leE a b=true):=by
 intro n
 induction n with
 |zero=>intro l hl _;have:l=[]:=zcr (by omega);subst this;refine⟨[],zvf ?_,List.Perm.refl _,List.Pairwise.nil⟩;simp(disch:=omega)only[zI,zba,zaz,zam];rfl
 |succ n ih =>
   intro l hl h5;by_cases h2:l.length<2
   . refine⟨l,zvf ?_,List.Perm.refl _,?_⟩
     .simp(disch:=omega)only[zI,zaz,zam];rfl
     . match l,h2 with
       |[],_=>exact List.Pairwise.nil
       |[x],_=>simp
       |_::_::_,h=>simp only[zaJ]at h;omega
   . have ht:(l.length:Int).tdiv 2=((l.length / 2:Nat):Int):=by rw[zfl (by omega)];omega
     obtain⟨a,ea,pa,sa⟩:=ih (l.take (l.length / 2)) (by simp;omega) (by simp;omega);obtain⟨b,eb,pb,sb⟩:=ih (l.drop (l.length / 2)) (by simp;omega) (by simp;omega);have la:=pa.length_eq;have lb:=pb.length_eq;simp only[zcH,zdk]at la lb;refine⟨List.merge a b leE,zvf ?_,?_,List.pairwise_merge leE_trans leE_total a b sa sb⟩
     .simp only[zd3]at ea;simp only[ze5]at eb;have hloop:=merge_loop a b (by omega) (by omega) _ 0 0 [] rfl (by omega) (by omega) (by simp);simp only[zfq,zhq,zeN]at hloop;have e1:List.take (List.length l) (mA l)=mA l:=zar (by simp);simp(disch:=omega)only[zN,zL,ht,zae,ea,zmB,e1,eb];exact hloop
     . refine(List.merge_perm_append leE).trans ?_;have:=pa.append pb
       rwa[zgZ]at this
abbrev dKey(e:zak):Int×Int:=(e.c.n,e.c.S)
abbrev DMap:=List ((Int×Int)×Int)×List ((Int×Int)×Bool)
open Classical in
def dstep(l:aP)(i:Nat)(e:zak)(fb:DMap):DMap:=
 if zBr e then
  match mfind (dKey e) fb.1 with
  |none=>(mput (dKey e) (i:Int) fb.1,fb.2)
  |some n=>if l[n.toNat]?=some e then fb else(fb.1,mput (dKey e) true fb.2)
 else fb
def dfold(l:aP):List zak->Nat->DMap->DMap
 |[],_,fb=>fb
 |e::r,i,fb=>dfold l r (i+1) (dstep l i e fb)
def zDR{κ ν:Type}[DecidableEq κ]{k:κ}{v:ν}:∀{l:List (κ×ν)} {p:κ×ν},p∈mput k v l->p=(k,v)\/p∈l
 |[],p,h=>by simpa[mput]using h
 |q::r,p,h=>by
   unfold mput at h;split at h
   . rcases zat.1 h with h|h
     .exact Or.inl h
     .exact Or.inr (zbG _ h)
   . rcases zat.1 h with h|h
     .exact Or.inr (by simp[h])
     . rcases zDR h with h|h
       .exact Or.inl h
       .exact Or.inr (zbG _ h)
def zwk{κ ν:Type}[DecidableEq κ]{k:κ}:∀{l:List (κ×ν)} {v:ν},mfind k l=some v->(k,v)∈l
 |[],v,h=>by simp[mfind]at h
 |q::r,v,h=>by
   unfold mfind at h;split at h
   .injection h with h;subst h;rename_i hk;subst hk;simp
   .exact zbG _ (zwk h)
def disp_loop(l:aP)(hl:l.length<=100000)(hp:∀e∈l,e.r.length<=1000000):∀(n i:Nat) (fb:DMap),i+n=l.length->(∀p∈fb.1,0<=p.2/\p.2<i)->zfo l (sC fb.1) (sD fb.2) i=some (zkd (dfold l (l.drop i) i fb)):=by
 intro n
 induction n with
 |zero=>intro i fb hi hf;refine ztn ?_;rw[zc0 (by omega),dfold];simp(disch:=omega)only[zN];rfl
 |succ n ih =>
   intro i fb hi hf;have hlt:i<l.length:=by omega
   refine ztn ?_;rw[zbE hlt,dfold];simp(disch:=omega)only[zV,zdN,zaa hlt,zzo,zaG];have stay:zfo l (sC fb.1) (sD fb.2) ((i:Int)+1)=some (zkd (dfold l (l.drop (i+1)) (i+1) fb)):=ih (i+1) fb (by omega) (λp hp=>by have:=hf p hp;omega);by_cases hv:zBr l[i]
   . simp(disch:=omega)only[zQ,zbP hv,zwj,zFl,zDX];unfold dstep;rw[if_pos hv]
     cases hm:mfind (dKey l[i]) fb.1 with
     |none =>
       simp(disch:=omega)only[zY,hm,Option.isSome_none,w64_id]
       exact ih (i+1) (mput (dKey l[i]) (i:Int) fb.1,fb.2) (by omega) (by
        intro p hp;rcases zDR hp with rfl|hp
        .dsimp only;omega
        .have:=hf p hp;omega)
     |some m =>
       have hb:=hf _ (zwk hm);have hml:m.toNat<l.length:=by have:=hb.2;simp only at this;omega
       have hm0:0<=m:=hb.1;simp(disch:=omega)only[zQ,zF,hm,ziJ,zci,zdN,zaa hml,zaa hlt,zJN _ _ (hp _ (zaq hml)),zaG];by_cases he:l[m.toNat]=l[i]
       .simp(disch:=omega)only[zQ,zbP he,w64_id];rw[if_pos (by first|rw[zaa hml,he]|rw[he])];exact stay
       .simp(disch:=omega)only[zY,zb1 he,w64_id];rw[if_neg (λh=>he (by first|(rw[zaa hml]at h;injection h)|(injection h)))];exact ih (i+1) (fb.1,mput (dKey l[i]) true fb.2) (by omega) (λp hp=>by have:=hf p hp;omega)
   .simp(disch:=omega)only[zY,zb1 hv,w64_id];unfold dstep;rw[if_neg hv];exact stay
def dispF(l:aP):DMap:=dfold l l 0 ([],[])
def c_disputes(l:aP)(hl:l.length<=100000)(hp:∀e∈l,e.r.length<=1000000):cw 155 [.sl 9 (mA l)] []=some (zkd (dispF l)):=
 zDF (disp_loop l hl hp l.length 0 ([],[]) (by omega) (by simp))
def ckeep(fb:DMap):List zak->Nat->List zak
 |[],_=>[]
 |e::r,i=>if mfind (dKey e) fb.1=some (i:Int)/\(mfind (dKey e) fb.2).getD false=false then e::ckeep fb r (i+1)else ckeep fb r (i+1)
def zAF{fb:DMap}:∀{l:aP} {i:Nat} {e:zak},e∈ckeep fb l i->e∈l
 |[],_,_,h=>by simp[ckeep]at h
 |x::r,i,e,h=>by
   unfold ckeep at h;split at h
   . rcases zat.1 h with h|h
     .simp[h]
     .exact zbG _ (zAF h)
   .exact zbG _ (zAF h)
def zAE{fb:DMap}:∀{l:aP} {i:Nat},(ckeep fb l i).length<=l.length
 |[],_=>by simp[ckeep]
 |x::r,i=>by unfold ckeep;have:=zAE (fb:=fb) (l:=r) (i:=i+1);split<;>simp<;>omega
def zCv(l:aP)(hl:l.length<=2000)(hp:∀e∈l,e.r.length<=1000000):∃r,cw 115 [.sl 9 (mA l)] []=some (zjy (r,0))/\r.Perm (ckeep (dispF l) l 0)/\r.Pairwise (λa b=>leE a b=true):=by
 have hlen:=zAE (fb:=dispF l) (l:=l) (i:=0);obtain⟨r,er,pr,sr⟩:=zJO _ (ckeep (dispF l) l 0) (zav _) (by omega);have hrl:=pr.length_eq;refine⟨r,zCc ?_,pr,sr⟩;simp only[c_disputes l (by omega) hp,zyw]
 have loop:∀(n i:Nat) (out:aP),i+n=l.length->out.length<=i->out++ckeep (dispF l) (l.drop i) i=ckeep (dispF l) l 0->ze8 l (dispF l) (mA out) i=some (zjy (r,0)):=by
  intro n
  induction n with
  |zero=>intro i out hi ho hk;rw[zc0 (by omega),ckeep,zf0]at hk;subst hk;refine zsb ?_;simp(disch:=omega)only[zW,zaC,zav];rw[zar (by simp)];simp(disch:=omega)only[zI,er,zmB,zav];rw[zar (by simp)];rfl
  |succ n ih =>
    intro i out hi ho hk;have hlt:i<l.length:=by omega
    have hpg:=hp _ (zaq hlt);rw[zbE hlt,ckeep]at hk;refine zsb ?_;simp(disch:=omega)only[zV,zdN,zaa hlt,zwj,zDN]
    have stay:¬(mfind (dKey l[i]) (dispF l).1=some (i:Int)/\(mfind (dKey l[i]) (dispF l).2).getD false=false)->ze8 l (dispF l) (mA out) ((i:Int)+1)=some (zjy (r,0)):=by intro hn;rw[if_neg hn]at hk;exact ih (i+1) out (by omega) (by omega) hk
    cases hm:mfind (dKey l[i]) (dispF l).1 with
    |none=>simp(disch:=omega)only[hm,Option.isSome_none,zaB,w64_id];exact stay (by rw[hm];simp)
    |some m =>
      by_cases hmi:m=i
      . subst hmi;simp(disch:=omega)only[hm,ziJ,zci,zaM,beq_self_eq_true]
        cases hb:(mfind (dKey l[i]) (dispF l).2).getD false with
        |true=>simp(disch:=omega)only[zQ,hb,w64_id];exact stay (by rw[hb];simp)
        |false=>rw[if_pos ⟨hm,hb⟩]at hk;have h2:=ih (i+1) (out++[l[i]]) (by omega) (by simp;omega) (by rw[zcA];exact hk);(try simp only[<-zbW zah]at h2);simp(disch:=omega)only[zY,zW,zR,hb,zdN,zaa hlt,zav];rw[zar (by simp)];exact h2
      .simp(disch:=omega)only[hm,ziJ,zci,zaM,show(m==(i:Int))=false by simpa using hmi,zaB,w64_id];exact stay (by rw[hm];intro h;exact hmi (by injection h.1))
 exact loop l.length 0 [] (by omega) (by simp) rfl
def seedOf(l:List GSeed)(n:Int):Option (Nat×GSeed):=fnd (λy=>y.g==n) 0 l
def seedR:Option (Nat×GSeed)->List Int×Bool
 |some (_,y)=>(y.xc,true)
 |none=>([],false)
def zg8(l:List GSeed)(n:Int)(hl:l.length<=1000000)(hm:∀y∈l,y.xc.length<=1000000):cw 112 [.sl 2 (mR l),I n] []=some (zg4 (seedR (seedOf l n))):=by
 refine zAK ?_;refine zvr l (λy=>y.g==n) (λi=>zjH l n i) (λo=>zg4 (seedR o)) ?_ ?_ ?_
 .refine zmW ?_;simp(disch:=omega)only[zW,zaC,zav];rfl
 .intro i hi h;have:=hm _ (zaq hi);refine zmW ?_;simp(disch:=omega)only[zW,zF,zaz,zpz,zaa hi,h,zaM,zav];rw[zar (by simp)];rfl
 .intro i hi y h hk;refine zmW ?_;simp(disch:=omega)only[zE,zpz,zaa hi,h,zaB,hk]
def zsB(l:List zbA)(n:Int):Option (Nat×zbA):=fnd (λy=>y.ID==n) 0 l
def zKZ:zbA:=⟨0,0,0,0,[]⟩
def zsC:Option (Nat×zbA)->zbA×Bool
 |some (_,y)=>(y,true)
 |none=>(zKZ,false)
def zvd(l:List zbA)(n:Int)(hl:l.length<=1000000):cw 120 [.sl 5 (mL l),I n] []=some (zrE (zsC (zsB l n))):=by
 refine zJ0 ?_;refine zvr l (λy=>y.ID==n) (λi=>zo1 l n i) (λo=>zrE (zsC o)) ?_ ?_ ?_
 .refine zsJ ?_;simp(disch:=omega)only[zN];rfl
 .intro i hi h;refine zsJ ?_;simp(disch:=omega)only[zV,zfB,zaa hi,h,zaM];rfl
 .intro i hi y h hk;refine zsJ ?_;simp(disch:=omega)only[zE,zfB,zaa hi,h,zaB,hk]
def FitsM(m:zbA)(x:zaK):Prop:=x.v∈m.h/\m.w≠x.w
def zJK(m:zbA)(x:zaK)(hl:m.h.length<=1000000):cw 189 [.agg (zbK m),.agg (zaA x)] []=some (zao (dec (FitsM m x))):=by
 refine zJ1 ?_;have H:=any_bool m.h.length (λj hj=>m.h[j]=x.v) (λi=>zo2 m x i) (λb=>zao (b&&(m.w !=x.w))) ?_ ?_ ?_
 .rw[H];congr 2;rw[zek];simp only[zaU,ziB,FitsM,bne_iff_ne];refine and_congr_left' ⟨λ⟨j,hj,e⟩=>e▸zaq hj,λh=>?_⟩;obtain⟨j,hj,e⟩:=zeU.1 h;exact⟨j,hj,e⟩
 .exact zsK (by simp(disch:=omega)only[zN];rfl)
 .intro i hi h;refine zsK ?_;simp(disch:=omega)only[zV,zcc,zaa hi,show(m.h[i]==x.v)=true by simpa using h,zaM,zdK];rfl
 .intro i hi y h hk;refine zsK ?_;simp(disch:=omega)only[zE,zcc,zaa hi,show(m.h[i]==x.v)=false by simpa using h,zaB,hk]
def Elig(l:List zbA)(n:Int)(x:zaK):Prop:=∃k m,zsB l n=some (k,m)/\FitsM m x
def zDm(l:List zbA)(n:Int)(x:zaK)(hl:l.length<=1000000)(hm:∀m∈l,m.h.length<=1000000):cw 158 [.sl 5 (mL l),I n,.agg (zaA x)] []=some (zao (dec (Elig l n x))):=by
 refine zDE ?_;simp only[zvd l n hl,zqk]
 cases h:zsB l n with
 |none=>simp only[zsC,zaB];rw[zb1 (by rintro⟨k,m,h2,_⟩;rw[h]at h2;cases h2)];rfl
 |some q=>obtain⟨k,m⟩:=q;have hmem:=zau (fnd_at h).1;simp only[zsC,zaM,zJK m x (hm m hmem),zaG];rw[show dec (Elig l n x)=dec (FitsM m x)from zl6 ⟨by rintro⟨k',m',h2,h3⟩;rw[h]at h2;cases h2;exact h3,λh3=>⟨k,m,h,h3⟩⟩];rfl
def PermP(x:GPart)(v:Int):Prop:=if x.k=2 then v=-1\/v=0\/v=x.N else -1<=v/\v<=x.N
def zua(p:zaQ)(c:zbC)(j:Nat)(x:GPart)(v:Int)(hs:Short c)(hok:zgr p c)(hx:p.d[j]?=some x):cw 160 [.agg (zaO p),.agg (zbU c),I j,I v] []=some (zao (dec (PermP x v))):=by
 obtain⟨hj,hx⟩:=zal.1 hx;refine zCb ?_;simp(disch:=omega)only[zQ,zN,zF,zgc p c hs,zaG,zbP hok,zfj,zaa hj,hx];simp only[zS,beq_iff_eq];by_cases h:x.k=2
 . rw[if_pos h,show dec (PermP x v)=dec (v=-1\/v=0\/v=x.N)from zl6 (by unfold PermP;rw[if_pos h])]
   repeat' split
   all_goals first
    |(rw[zbP (by omega)];rfl)
    |(rw[show(v==x.N)=dec (v=-1\/v=0\/v=x.N)from zij (by simp only[beq_iff_eq];omega)];rfl)
 . rw[if_neg h,show dec (PermP x v)=dec (-1<=v/\v<=x.N)from zl6 (by unfold PermP;rw[if_neg h])];split
   .rw[show decide (v<=x.N)=dec (-1<=v/\v<=x.N)from zij (by simp only[decide_eq_true_eq];omega)];rfl
   .rw[zb1 (by omega)];rfl
def OpenP(p:zaQ)(n:Int):Prop:=0<=n/\∃x,p.d[n.toNat]?=some x/\x.k=1
def zve(p:zaQ)(n:Int):cw 159 [.agg (zaO p),I n] []=some (zao (dec (OpenP p n))):=by
 refine zJ8 ?_;by_cases h0:0<=n
 . by_cases h1:n.toNat<p.d.length
   . simp(disch:=omega)only[zaz,zab,zam,zfj,zaa h1,zad]
     rw[show(p.d[n.toNat].k==1)=dec (OpenP p n)from zij (by
      simp only[beq_iff_eq]
      exact⟨λh=>⟨h0,_,zaa h1,h⟩,λ⟨_,x,h2,h3⟩=>by rw[zaa h1]at h2;cases h2;exact h3⟩)]
     rfl
   .simp(disch:=omega)only[zN,zaz];rw[zb1 (by rintro⟨_,x,h2,_⟩;exact h1 (zal.1 h2).1)];rfl
 .simp(disch:=omega)only[zaC];rw[zb1 (λh=>h0 h.1)];rfl
def FitsE(s:zaZ)(e:zak):Prop:=
 ∃x,zgA s.j e.g=some x/\e.k=0/\Elig s.u e.c.n x/\∃k p y,zfu s.h x=some (k,p)/\0<=e.G/\p.d[e.G.toNat]?=some y/\y.k=1/\(-1<=e.q/\e.q<=y.N)/\e.r=x.r
def zAy(s:zaZ)(hs:zc7 s)(e:zak)(hm:∀m∈s.u,m.h.length<=1000000)(hp:e.r.length<=1000000):cw 118 [.agg (za4 s),.agg (zah e)] []=some (zao (dec (FitsE s e))):=by
 have hm16:=hs.markers.1;have hx60:=hs.scripts.1;have hp32:=hs.papers;refine zJ6 ?_;simp only[zl5 s.j e.g (by omega),ziM]
 cases h1:zgA s.j e.g with
 |none=>simp only[zY,scR];rw[zb1 (by rintro⟨x,h2,_⟩;rw[h1]at h2;cases h2)];rfl
 |some x =>
   have hmem:=(zpK h1).1;obtain⟨k,p,c,hk,hc,_⟩:=hs.script x hmem;simp only[zQ,scR];by_cases h2:e.k=0
   . simp only[show(e.k !=0)=false by simp[h2],zaB,zDm s.u e.c.n x (by omega) hm,zaG];by_cases h3:Elig s.u e.c.n x
     . have hpk:=(zfV hk).1;have hlt:=(zal.1 hpk).1;simp(disch:=omega)only[zQ,zF,zbP h3,zkA s.h x (by omega),hk,ixR,zdf,zdF,hpk,zve,zaG,zjq,hc];by_cases h4:OpenP p e.G
       . obtain⟨h0,y,hy,hyk⟩:=h4;have hy1:1<=y.N:=((hs.okPaper hpk).2.2.2.1 y (zau hy)).1.1;have hje:((e.G.toNat:Nat):Int)=e.G:=by omega
         have hperm:=zua p c e.G.toNat y e.q (hs.short c (zau hc)) (hs.schemes k p c hpk hc) hy;rw[hje]at hperm
         have hiff:FitsE s e↔(-1<=e.q/\e.q<=y.N)/\e.r=x.r:=by
          constructor
          . rintro⟨x',a1,_,_,k',p',y',a2,_,a3,_,a4,a5⟩
            rw[h1]at a1;cases a1;rw[hk]at a2;cases a2;rw[hy]at a3;cases a3;exact⟨a4,a5⟩
          . rintro⟨a4,a5⟩
            exact⟨x,h1,h2,h3,k,p,y,hk,h0,hy,hyk,a4,a5⟩
         rw[zl6 hiff];simp only[zbP (show OpenP p e.G from⟨h0,y,hy,hyk⟩),zaM,zCw e.r x.r hp,zaG,hperm,zaG];by_cases h5:e.q=-1
         .simp only[show(e.q==-1)=true by simp[h5],zaM];rw[show dec ((-1<=e.q/\e.q<=y.N)/\e.r=x.r)=dec (e.r=x.r)from zl6 ⟨λh=>h.2,λh=>⟨by omega,h⟩⟩];rfl
         . simp only[show(e.q==-1)=false by simpa using h5,zaB];by_cases h6:-1<=e.q/\e.q<=y.N
           . rw[zbP (show PermP y e.q by unfold PermP;rw[iNQ];exact h6),zaM,
              show dec ((-1<=e.q/\e.q<=y.N)/\e.r=x.r)=dec (e.r=x.r)from zl6 ⟨λh=>h.2,λh=>⟨h6,h⟩⟩]
             rfl
           .rw[zb1 (show¬PermP y e.q by unfold PermP;rw[iNQ];exact h6),zaB,zb1 (λh=>h6 h.1)];rfl
       . simp only[zb1 h4,zaB]
         rw[zb1 (by
          rintro⟨x',a1,_,_,k',p',y',a2,a0,a3,a6,_⟩
          rw[h1]at a1;cases a1;rw[hk]at a2;cases a2
          exact h4 ⟨a0,y',a3,a6⟩)]
         rfl
     . simp only[zY,zb1 h3]
       rw[zb1 (by
        rintro⟨x',a1,_,a3,_⟩
        rw[h1]at a1;cases a1
        exact h3 a3)]
       rfl
   .simp only[show(e.k !=0)=true by simpa using h2,zaM];rw[zb1 (by rintro⟨_,_,a,_⟩;exact h2 a)];rfl
def failsN(l:List Bool):Int:=((l.filter (!·)).length:Nat)
def ztB(l:List Bool)(hl:l.length<=1000000):cw 216 [.sl 1 (List.map nBool l)] []=some (za9 (failsN l)):=by
 refine zIq ?_;have loop:=zds l (λi r=>∀x:Int,0<=x->x<=i->zk6 l x i=some (za9 (x+failsN r))) ?_ ?_ 0 (by omega) (by omega)
 .rw[loop,Int.zero_add]
 .intro x _ _;refine zwz ?_;simp(disch:=omega)only[zN];simp only[failsN,List.filter_nil,zba,Int.natCast_zero,zg6];rfl
 . intro i hi r hr ih x h0 h1;refine zwz ?_;simp(disch:=omega)only[zV,zq7,zaa hi]
   cases hb:l[i]with
   |true=>simp(disch:=omega)only[zQ,w64_id];rw[ih x h0 (by omega),show failsN (true::r)=failsN r by simp[failsN]]
   |false=>simp(disch:=omega)only[zY,w64_id];rw[ih (x+1) (by omega) (by omega),show failsN (false::r)=1+failsN r by simp[failsN];omega,Int.add_assoc]
def zoS(r:zbT)(w:zcp):Prop:=(w.Y.length:Int)<=r.xh/\w.xg=decide (r.xa<=failsN w.Y)
def zH9(r:zbT)(w:zcp)(hr:OkMon r):cw 215 [.agg (zdg r),.agg (zeh w)] []=some (zao (dec (zoS r w))):=by
 have hw:=hr.2.2.1;refine zIp ?_;simp only[zpR r hr,zcj,beq_self_eq_true,zaM,zab];by_cases h:(w.Y.length:Int)<=r.xh
 .simp(disch:=omega)only[zaz,ztB,zcj];rw[show(w.xg==decide (r.xa<=failsN w.Y))=dec (zoS r w)from zij (by simp only[beq_iff_eq,zoS];exact⟨λh2=>⟨h,h2⟩,λh2=>h2.2⟩)];rfl
 .simp(disch:=omega)only[zaC];rw[zb1 (λh2=>h h2.1)];rfl
def lastW(r:zbT)(w:zcp)(b:Bool):List Bool:=if r.xh<((w.Y++[b]).length:Nat)then(w.Y++[b]).drop 1 else w.Y++[b]
def stepW(r:zbT)(w:zcp)(b:Bool):zcp:=⟨lastW r w b,decide (r.xa<=failsN (lastW r w b))⟩
def stepW_ok(r:zbT)(w:zcp)(b:Bool)(h:zoS r w):zoS r (stepW r w b):=by
 refine⟨?_,rfl⟩;have:=h.1;show((lastW r w b).length:Int)<=r.xh;unfold lastW;split
 .simp at *;omega
 .simp at *;omega
def zJM(r:zbT)(w:zcp)(b:Bool)(hr:OkMon r)(hw:zoS r w)(hs:w.xg=false):cw 188 [.agg (zdg r),.agg (zeh w),B b] []=some (zvE (stepW r w b,0)):=by
 have h1:=hr.2.2.1;have h2:=hw.1;refine zJ3 ?_;have hsnoc:List.map nBool w.Y++[[B b]]=List.map nBool (w.Y++[b]):=by simp[nBool]
 have hsnoc2:List.map nBool w.Y++[nBool b]=List.map nBool (w.Y++[b]):=by simp
 have hsnoc3:List.map nBool w.Y++[[B b]]=List.map nBool (w.Y++[b]):=by simp[nBool]
 have hlen:(w.Y++[b]).length=w.Y.length+1:=by simp
 simp(disch:=omega)only[zQ,zI,zH9 r w hr,zaG,zbP hw,hs,zam,hsnoc];by_cases hb:r.xh<((w.Y++[b]).length:Nat)
 . simp(disch:=omega)only[zaz,zam,zbg,zav];refine zCg ?_
   have hdrop:List.take ((w.Y++[b]).length-Int.toNat 1) (List.drop (0+Int.toNat 1) (List.map nBool (w.Y++[b])))=List.map nBool (lastW r w b):=by rw[show 0+Int.toNat 1=1 from rfl,<-ze5,zar (by simp)];unfold lastW;rw[if_pos hb]
   have hll:(lastW r w b).length<=1000000:=by unfold lastW;rw[if_pos hb];simp;omega
   simp(disch:=omega)only[hsnoc,hsnoc2,hsnoc3,zab,hdrop,zam,ztB _ hll,zcj];rfl
 . simp(disch:=omega)only[zaC];refine zzW ?_
   have hdrop:List.take (w.Y++[b]).length (List.map nBool (w.Y++[b]))=List.map nBool (lastW r w b):=by rw[zar (by simp)];unfold lastW;rw[if_neg hb]
   have hll:(lastW r w b).length<=1000000:=by unfold lastW;rw[if_neg hb];simp;omega
   simp(disch:=omega)only[hsnoc,hsnoc2,hsnoc3,zab,hdrop,zam,ztB _ hll,zcj];rfl
def zAx(n:Int):∃m,cw 227 [I n] []=some (za9 m):=by
 by_cases h:n<0
 .exact⟨_,zAM (by simp(disch:=omega)only[zaz];rfl)⟩
 .exact⟨_,zAM (by simp(disch:=omega)only[zaC];rfl)⟩
def zJL(r:zbT)(a b:aQ)(hr:OkMon r):∃v,cw 214 [.agg (zdg r),.sl 1 (List.map zaj a),.sl 1 (List.map zaj b)] []=some (zao v):=by
 let Q:AV×Mem->Prop:=λy=>∃v,y=zao v
 suffices H:Sat Q (cw 214 [.agg (zdg r),.sl 1 (List.map zaj a),.sl 1 (List.map zaj b)] [])by obtain⟨y,e,v,rfl⟩:=H;exact⟨v,e⟩
 have no:Sat Q bG:=za1 ⟨false,rfl⟩;refine sat_of (λy=>zJ2) ?_;simp only[zJ,zpR r hr,zcj,zab];by_cases h1:a.length=b.length
 . simp only[zJ,h1];by_cases h2:b.length<=24
   . simp(disch:=omega)only[zaC];refine zds a (λi _=>∀x,Sat Q (zo3 r a b x i)) ?_ ?_ 0
     .intro x;obtain⟨m,em⟩:=zAx x;refine sat_of (λy=>zx3) ?_;simp(disch:=omega)only[zN,em,zcj];exact za1 ⟨_,rfl⟩
     . intro i hi rr _ ih x;have hi2:i<b.length:=by omega
       refine sat_of (λy=>zx3) ?_;simp(disch:=omega)only[zV,zcc,zaa hi,zaa hi2,w64_id (n:=(i:Int)+1)];obtain⟨m,em⟩:=zAx (w64 ((if 0 > a[i]then 0 else a[i])-if 0 > b[i]then 0 else b[i]));simp only[em,zcj];simp only[zfZ]
       repeat' split
       all_goals first
        |exact no
        |exact ih _
   .simp(disch:=omega)only[zaz];exact no
 .simp only[show((a.length:Int) !=(b.length:Int))=true by simp only[bne_iff_ne,ne_eq];omega,zaM];exact no
def c_judge(s:zaZ)(hs:zc7 s)(k:Nat)(p:zaQ)(i:Nat)(y:GSeed)(n:Int)(l:List zbZ)(hk:zhh s n=some (k,p))(hy:seedOf s.B n=some (i,y))(hm:zoR p y.xc)
  (hl:l.length<=100000):∃v,cw 187 [.agg (za4 s),I n,.sl 2 (mP l)] []=some (zqa v):=by
 let Q:AV×Mem->Prop:=λy=>∃v,y=zqa v
 suffices H:Sat Q (cw 187 [.agg (za4 s),I n,.sl 2 (mP l)] [])by obtain⟨y,e,v,rfl⟩:=H;exact⟨v,e⟩
 have hx60:=hs.scripts.1;have hp32:=hs.papers;have hsd:=hs.seeds;have hpk:=zry hk;have hparts:p.d.length<=24:=(hs.okPaper hpk).2.2.1.2
 have hmarks:∀y∈s.B,y.xc.length<=1000000:=by intro y hy;obtain⟨k',p',h1,h2⟩:=hs.seed y hy;have:=(hs.okPaper (zry h1)).2.2.1;have:=h2.1;omega
 refine sat_of (λy=>zIt) ?_;simp(disch:=omega)only[zhu s n (by omega) (by omega),hk,ixR,zdf,zg8 s.B n (by omega) hmarks,hy,seedR,zfx];refine zds p.d (λq _=>∀(a b:aQ),(a.length:Int)<=100000*q->(b.length:Int)<=100000*q->Sat Q (zk8 s l ((k:Int),true) (y.xc,true) (List.map zaj a) (List.map zaj b) q)) ?_ ?_ [] [] (by simp) (by simp)
 .intro a b ha hb;refine sat_of (λy=>zwB) ?_;simp(disch:=omega)only[zW,zF,zdF,hpk,zaC,zav];rw[zar (by simp),zar (by simp)];obtain⟨v,ev⟩:=zJL s.O a b hs.monitor;simp only[ev,zaG];exact za1 ⟨(true,v),rfl⟩
 . intro q hq r _ ih a b ha hb;refine sat_of (λy=>zwB) ?_;simp(disch:=omega)only[zV,zdF,hpk,zve,zaG]
   cases dec (OpenP p (q:Int))with
   |false=>simp(disch:=omega)only[zY,w64_id];exact ih a b (by omega) (by omega)
   |true =>
     simp only[zQ];have hqm:q<y.xc.length:=by have:=hm.1;omega
     refine zds l (λj _=>∀(a b:aQ) (f:Bool),(a.length:Int)<=100000*q+j->(b.length:Int)<=100000*q+j->Sat Q (zk9 s l ((k:Int),true) (y.xc,true) q (List.map zaj a) (List.map zaj b) f j)) ?_ ?_ a b false (by omega) (by omega)
     . intro a b f ha hb;refine sat_of (λy=>zwC) ?_
       cases f with
       |false=>simp(disch:=omega)only[zY,zN];exact za1 ⟨(false,false),rfl⟩
       |true=>simp(disch:=omega)only[zQ,zN,w64_id];exact ih a b (by omega) (by omega)
     . intro j hj r _ ih2 a b f ha hb;refine sat_of (λy=>zwC) ?_;simp(disch:=omega)only[zE,zbg,zuf,zaa hj,zcc,zaa hqm,zbW zaj]
       cases l[j].part==(q:Int)with
       |true=>simp only[zaM];exact ih2 _ _ true (by simp;omega) (by simp;omega)
       |false=>simp only[zaB];exact ih2 a b f (by omega) (by omega)
structure WInv(s:zaZ)(l:aP)(i:Nat)(out:List zc1)(w:zcp)(void:List Bool)(notes:List (Int×List zbZ)):Prop where
 olen:out.length<=i
 ow:zoS s.O w
 os:w.xg=true->1<=out.length
 vlen:void.length=l.length
 nlen:∀q∈notes,q.2.length<=i
def WInv.up{s:zaZ}{l:aP}{i:Nat}{out:List zc1}{w:zcp}{void:List Bool}{notes:List (Int×List zbZ)}(h:WInv s l i out w void notes):WInv s l (i+1) out w void notes:=
 ⟨by have:=h.olen;omega,h.ow,h.os,h.vlen,λq hq=>by have:=h.nlen q hq;omega⟩
def zEw{r:zbT}(h:OkMon r):zoS r ⟨[],false⟩:=by
 have h1:=h.2.2.1;have h2:=h.2.2.2;refine⟨by simp;omega,?_⟩;have:¬r.xa<=failsN []:=by simp[failsN];omega
 simp[this]
def QW(l:aP):AV×Mem->Prop:=λy=>∃r,y=znp r/\r.2.length=l.length/\r.1.length<=l.length
def zyP{s:zaZ}(hs:zc7 s){n:Int}{i:Nat}{y:GSeed}(h:seedOf s.B n=some (i,y)):∃k p,zhh s n=some (k,p)/\zoR p y.xc:=by obtain⟨h1,h2,_⟩:=fnd_at h;obtain⟨k,p,h3,h4⟩:=hs.seed y (zau h1);simp only[beq_iff_eq]at h2;rw[h2]at h3;exact⟨k,p,h3,h4⟩
def zrJ{s:zaZ}(hs:zc7 s):∀y∈s.B,y.xc.length<=1000000:=by intro y hy;obtain⟨k',p',h1,h2⟩:=hs.seed y hy;have:=(hs.okPaper (zry h1)).2.2.1;have:=h2.1;omega
def watch1(s:zaZ)(hs:zc7 s)(l:aP)(hl:l.length<=2000)(hp:∀e∈l,e.r.length<=1000000)(mk:Int):∀(n i:Nat),i+n=l.length->∀(good:zb8) (first:Bool) (begin:Int) (out:List zc1) (w:zcp) (void:List Bool) (notes:List (Int×List zbZ)) (ol:Nat),0<=begin->begin<=i->ol=out.length->WInv s l i out w void notes->Sat (QW l) (ze0 s l mk (mS out) w (mY notes) good (List.map nBool void) ol first begin i):=by
 have hsd:=hs.seeds;intro n
 induction n with
 |zero =>
   intro i hi good first begin out w void notes ol h0 h1 ho inv
   have hvl:=inv.vlen;have hol:=inv.olen;subst ho;refine sat_of (λy=>zwD) ?_;simp(disch:=omega)only[zN,zb9,zae,zam];rw[zar (by simp),zar (by simp;omega)];exact za1 ⟨(out,void),rfl,hvl,by dsimp only;omega⟩
 |succ n ih =>
   intro i hi good first begin out w void notes ol h0 h1 ho inv
   have hvl:=inv.vlen;have hol:=inv.olen;subst ho;have hlt:i<l.length:=by omega
   have hltv:i<void.length:=by omega
   have go:∀(good:zb8) (first:Bool) (begin:Int) (out:List zc1) (w:zcp) (void:List Bool) (notes:List (Int×List zbZ)) (ol:Nat),0<=begin->begin<=i->ol=out.length->WInv s l (i+1) out w void notes->Sat (QW l) (ze0 s l mk (mS out) w (mY notes) good (List.map nBool void) ol first begin (w64 ((i:Int)+1))):=by
    intro good first begin out w void notes ol h0 h1 ho inv
    rw[w6Q];exact ih (i+1) (by omega) good first begin out w void notes ol h0 (by omega) ho inv
   have m1008:∀(good:zb8) (first:Bool) (begin:Int) (out:List zc1) (w:zcp) (void:List Bool) (notes:List (Int×List zbZ)) (ol:Nat),0<=begin->begin<=i->ol=out.length->WInv s l (i+1) out w void notes->Sat (QW l) (ziU s l mk ol i (mS out) w (mY notes) good (List.map nBool void) first begin):=by
    intro good first begin out w void notes ol h0 h1 ho inv
    refine sat_of (λy=>zBa) ?_;exact go good first begin out w void notes ol h0 h1 ho inv
   have m1029:∀(w':zcp) (notes':List (Int×List zbZ)) (r:Bool×Bool),zoS s.O w'->(∀q∈notes',q.2.length<=i+1)->Sat (QW l) (zoC s l mk (mS out) good (List.map nBool void) out.length first begin i l[i] (mY notes') r (w',0)):=by
    intro w' notes' r hw' hn'
    have loop:∀(m:Nat) (j:Int) (void':List Bool),0<=j->j+m=i+1->void'.length=l.length->Sat (QW l) (znO s l mk (mS out) good (List.map nBool void) out.length first begin i l[i] (mY notes') r (w',0) (List.map nBool void') j):=by
     intro m
     induction m with
     |zero=>intro j void' hj hjm hv';refine sat_of (λy=>zwF) ?_;simp(disch:=omega)only[zaC];refine sat_of (λy=>zy1) ?_;simp only[zbW zcl];refine go _ _ _ _ _ _ _ _ h0 h1 (by simp) ⟨by simp;omega,hw',λ_=>by simp,hv',hn'⟩
     |succ m ih3 =>
       intro j void' hj hjm hv';have hj1:j.toNat<l.length:=by omega
       have hj2:j.toNat<void'.length:=by omega
       have m1033:∀(b:Bool),Sat (QW l) (zfp s l mk (mS out) good (List.map nBool void) out.length first begin i l[i] (mY notes') r (w',0) j (List.map nBool (void'.set j.toNat b))):=by intro b;refine sat_of (λy=>zBj) ?_;rw[w6Q];exact ih3 (j+1) (void'.set j.toNat b) (by omega) (by omega) (by simpa using hv')
       refine sat_of (λy=>zwF) ?_;simp(disch:=omega)only[zV,zb9,zaI,zq7,zdN,zaa hj1,zaa hj2,zq4,zaG,zgx nBool];simp only[zfZ]
       repeat' split
       all_goals exact m1033 _
    refine sat_of (λy=>zBi) ?_
    cases hsus:w'.xg with
    |true=>simp(disch:=omega)only[zI,zaM,eq_self,zam];exact loop (i+1-begin.toNat) begin void h0 (by omega) hvl
    |false =>
      simp only[zaB]
      cases r.2 with
      |true=>simp only[zaM];exact m1008 _ _ _ _ _ _ _ _ h0 h1 rfl ⟨by omega,hw',by simp[hsus],hvl,hn'⟩
      |false=>simp only[zaB];refine sat_of (λy=>zy0) ?_;exact go _ _ _ _ _ _ _ _ h0 h1 rfl ⟨by omega,hw',by simp[hsus],hvl,hn'⟩
   have m1025:∀(c:List zbZ) (q:Nat) (y:GSeed),w.xg=false->c.length<=i->seedOf s.B l[i].g=some (q,y)->Sat (QW l) (zoB s l mk (mS out) w (mY notes) good (List.map nBool void) out.length first begin i l[i] c):=by
    intro c q y hsus hc hsd;obtain⟨k,p,hk,hm⟩:=zyP hs hsd;refine sat_of (λy=>zBf) ?_;have hlen:(mP c++[[I l[i].G,I l[i].q]]).length=c.length+1:=by simp
    have htk:List.take (c.length+1) (mP c++[zb0 ⟨l[i].G,l[i].q⟩])=mP (c++[⟨l[i].G,l[i].q⟩]):=by simp only[zbW zb0];rw[zar (by simp)]
    simp(disch:=omega)only[zI,hlen,zam,htk,zxo]
    have hnn:∀q∈mput l[i].g (c++[⟨l[i].G,l[i].q⟩]) notes,q.2.length<=i+1:=by
     intro q hq;rcases zDR hq with rfl|hq
     .simp;omega
     .have:=inv.nlen q hq;omega
    refine sat_of (λy=>zBg) ?_;simp only[zpH]
    have hlk:((mfind l[i].g (mput l[i].g (c++[⟨l[i].G,l[i].q⟩]) notes)).getD []).length<=100000:=by
     cases hf:mfind l[i].g (mput l[i].g (c++[⟨l[i].G,l[i].q⟩]) notes)with
     |none=>simp
     |some v=>have:=hnn _ (zwk hf);simp only[zci];simp only at this;omega
    obtain⟨v,ev⟩:=c_judge s hs k p q y l[i].g _ hk hsd hm hlk;simp only[ev,zB0]
    cases v.1 with
    |false=>simp only[zY];refine sat_of (λy=>zyZ) ?_;exact go _ _ _ _ _ _ _ _ h0 h1 rfl ⟨by omega,inv.ow,inv.os,hvl,hnn⟩
    |true=>simp only[zQ];refine sat_of (λy=>zBh) ?_;simp only[zJM s.O w v.2 hs.monitor inv.ow hsus,zDs];exact m1029 _ _ _ (stepW_ok _ _ _ inv.ow) hnn
   have m1019:∀(q:Nat) (y:GSeed),w.xg=false->seedOf s.B l[i].g=some (q,y)->Sat (QW l) (zoA s l mk (mS out) w (mY notes) good (List.map nBool void) out.length first begin i l[i]):=by
    intro q y hsus hsd;refine sat_of (λy=>zBe) ?_;simp only[zpH]
    have hc:((mfind l[i].g notes).getD []).length<=i:=by
     cases hf:mfind l[i].g notes with
     |none=>simp
     |some v=>have:=inv.nlen _ (zwk hf);simpa using this
    generalize (mfind l[i].g notes).getD []=c at hc;refine zds c (λj _=>∀b,Sat (QW l) (zla s l mk (mS out) w (mY notes) good (List.map nBool void) out.length first begin i l[i] c b j)) ?_ ?_ false
    . intro b;refine sat_of (λy=>zwE) ?_;simp(disch:=omega)only[zN]
      cases b with
      |true=>simp only[zaM];refine sat_of (λy=>zyY) ?_;exact go _ _ _ _ _ _ _ _ h0 h1 rfl inv.up
      |false=>simp only[zaB];exact m1025 c q y hsus hc hsd
    . intro j hj r _ ih2 b;refine sat_of (λy=>zwE) ?_;simp(disch:=omega)only[zE,zuf,zaa hj]
      cases b with
      |true=>simp only[zaM];exact ih2 _
      |false=>simp only[zaB];exact ih2 _
   have m1014:Sat (QW l) (ziV s l mk (mS out) w (mY notes) good (List.map nBool void) out.length first begin i l[i]):=by
    have stay:Sat (QW l) (zjI s l mk (mS out) w (mY notes) good (List.map nBool void) out.length first begin i l[i]):=
     sat_of (λy=>zyW) (go _ _ _ _ _ _ _ _ h0 h1 rfl inv.up)
    have stay2:Sat (QW l) (zjJ s l mk (mS out) w (mY notes) good (List.map nBool void) out.length first begin i l[i]):=
     sat_of (λy=>zyX) (go _ _ _ _ _ _ _ _ h0 h1 rfl inv.up)
    refine sat_of (λy=>zBb) ?_
    cases l[i].k !=0 with
    |true=>simp only[zaM];exact stay
    |false =>
      simp only[zaB]
      cases l[i].c.n !=mk with
      |true=>simp only[zaM];exact stay
      |false =>
        simp only[zaB];refine sat_of (λy=>zBc) ?_
        cases hsus:w.xg with
        |true=>simp(disch:=omega)only[zF,zaM,zab,zb9,zaI,zq7,zaa hltv,zgx nBool];exact m1008 _ _ _ _ _ _ _ _ h0 h1 rfl ⟨by omega,inv.ow,inv.os,by simpa using hvl,inv.up.nlen⟩
        |false =>
          simp only[zaB];refine sat_of (λy=>zBd) ?_;simp(disch:=omega)only[zg8 s.B l[i].g (by omega) (zrJ hs),zfx]
          cases hq:seedOf s.B l[i].g with
          |none=>simp only[zY,seedR];exact stay2
          |some qy =>
            obtain⟨q,y⟩:=qy;simp only[zQ,seedR,zAy s hs l[i] hs.short2 (hp _ (zaq hlt)),zaG]
            cases dec (FitsE s l[i])with
            |false=>simp only[zY];exact stay2
            |true=>simp only[zQ];exact m1019 q y hsus hq
   refine sat_of (λy=>zwD) ?_;simp(disch:=omega)only[zV,zdN,zaa hlt]
   cases l[i].k==1 with
   |false=>simp only[zaB];exact m1014
   |true =>
     simp only[zaM]
     cases l[i].E==mk with
     |false=>simp only[zaB];exact m1014
     |true =>
       simp only[zaM]
       cases hsus:w.xg with
       |false=>simp only[zaB];exact m1014
       |true =>
         have hon:=inv.os hsus;have hoe:((out.length:Int)-1).toNat=out.length-1:=by omega
         have hol2:out.length-1<out.length:=by omega
         simp(disch:=omega)only[zL,zaM,hoe,zaI,zCf,zaa hol2,zad,zgx zcl,List.getElem?_set_self hol2];exact m1008 _ _ _ _ _ _ [] _ (by omega) (by omega) (by simp) ⟨by simp;omega,zEw hs.monitor,by simp,hvl,by simp⟩
def c_watch(s:zaZ)(hs:zc7 s)(l:aP)(hl:l.length<=2000)(hp:∀e∈l,e.r.length<=1000000)(mk:Int):∃r,cw 157 [.agg (za4 s),.sl 9 (mA l),I mk] []=some (znp r)/\r.2.length=l.length/\r.1.length<=l.length:=by
 have H:Sat (QW l) (cw 157 [.agg (za4 s),.sl 9 (mA l),I mk] []):=by refine sat_of (λy=>zIu) ?_;simp(disch:=omega)only[zI,zam,zae,map_rep nBool];exact watch1 s hs l hl hp mk l.length 0 (by omega) ⟨0,0,0⟩ true 0 [] ⟨[],false⟩ (List.replicate l.length false) [] 0 (by omega) (by omega) rfl ⟨by simp,zEw hs.monitor,by simp,by simp,by simp⟩
 obtain⟨y,e,r,rfl,h⟩:=H;exact⟨r,e,h⟩
def c_all(s:zaZ)(hs:zc7 s)(l:aP)(hl:l.length<=2000)(hp:∀e∈l,e.r.length<=1000000):∃r,cw 117 [.agg (za4 s),.sl 9 (mA l)] []=some (znp r)/\r.2.length=l.length/\r.1.length<=40000:=by
 let Q:AV×Mem->Prop:=λy=>∃r,y=znp r/\r.2.length=l.length/\r.1.length<=40000
 suffices H:Sat Q (cw 117 [.agg (za4 s),.sl 9 (mA l)] [])by obtain⟨y,e,r,rfl,h⟩:=H;exact⟨r,e,h⟩
 have hm16:=hs.markers.1;refine sat_of (λy=>zLe) ?_;simp(disch:=omega)only[zI,zam,zae,map_rep nBool];refine zds s.u (λi _=>∀(out:List zc1) (void:List Bool),(out.length:Int)<=2000*i->void.length=l.length->Sat Q (zp7 s l (mS out) (List.map nBool void) i)) ?_ ?_ [] _ (by simp) (by simp)
 .intro out void ho hv;refine sat_of (λy=>zzz) ?_;simp(disch:=omega)only[zN,zb9,zae,zam];rw[zar (by simp),zar (by simp;omega)];exact za1 ⟨(out,void),rfl,hv,by dsimp only;omega⟩
 . intro i hi _ _ ih out void ho hv;obtain⟨r,er,r1,r2⟩:=c_watch s hs l hl hp s.u[i].ID;refine sat_of (λy=>zzz) ?_;simp(disch:=omega)only[zI,zF,zaz,zfB,zaa hi,er,zwe,eq_self];refine zds r.2 (λj _=>∀void:List Bool,void.length=l.length->Sat Q (znd s l (mS out) i r (List.map nBool void) j)) ?_ ?_ void hv
   .intro void hv;refine sat_of (λy=>zzA) ?_;simp(disch:=omega)only[zN,w64_id,<-zct];exact ih (out++r.1) void (by simp;omega) hv
   . intro j hj _ _ ih2 void hv;have hj1:j<void.length:=by omega
     refine sat_of (λy=>zzA) ?_;simp(disch:=omega)only[zE,zb9,zaI,zq7,zaa hj1,zaa hj,zgx nBool]
     cases void[j]with
     |true=>simp only[zaM];exact ih2 _ (by simpa using hv)
     |false=>simp only[zaB];exact ih2 _ (by simpa using hv)
def c_stopped(s:zaZ)(hs:zc7 s)(l:aP)(hl:l.length<=100000)(i:Nat)(hi:i<l.length):∃b,cw 119 [.agg (za4 s),.sl 9 (mA l),I i] []=some (zao b):=by
 let Q:AV×Mem->Prop:=λy=>∃r,y=zao r
 suffices H:Sat Q (cw 119 [.agg (za4 s),.sl 9 (mA l),I i] [])by obtain⟨y,e,r,rfl⟩:=H;exact⟨r,e⟩
 have hm16:=hs.markers.1;refine sat_of (λy=>zEQ) ?_;simp(disch:=omega)only[zR,zdN,zaa hi,zvd s.u _ (show s.u.length<=1000000 by omega),zqk];generalize zsC (zsB s.u l[i].c.n)=mk
 have loop:∀(m:Nat) (k:Nat),k+m=l.length->Sat Q (zgu l i mk k):=by
  intro m
  induction m with
  |zero=>intro k hk;refine sat_of (λy=>zuo) ?_;simp(disch:=omega)only[zN];exact za1 ⟨false,rfl⟩
  |succ m ih =>
    intro k hk;have hkl:k<l.length:=by omega
    refine sat_of (λy=>zuo) ?_;simp(disch:=omega)only[zE,zdN,zaa hi,zaa hkl];simp only[zfZ]
    repeat' split
    all_goals first
     |exact ih (k+1) (by omega)
     |exact za1 ⟨true,rfl⟩
 exact loop (l.length-(i+1)) (i+1) (by omega)
def zAz(a b:zbL):∃v,cw 162 [.agg (zaP a),.agg (zaP b)] []=some (zao v):=by
 by_cases h1:a.g=b.g
 . by_cases h2:a.G=b.G
   .exact⟨_,zvg (by simp only[zJ,h1,h2];rfl)⟩
   .exact⟨_,zvg (by simp only[zJ,h1,show(a.G !=b.G)=true by simpa using h2,zaM];rfl)⟩
 .exact⟨_,zvg (by simp only[show(a.g !=b.g)=true by simpa using h1,zaM];rfl)⟩
def c_put(l:ae)(x:zbL)(hl:l.length<=100000):∃r,cw 121 [.row 950 8 0 (List.length (mG l)),.agg (zaP x)] [(950,gV (mG l))]=some (znq r)/\r.length<=l.length+1/\∀g∈r,g=x\/g∈l:=by
 let Q:AV×Mem->Prop:=λy=>∃r,y=znq r/\r.length<=l.length+1/\∀g∈r,g=x\/g∈l
 suffices H:Sat Q (cw 121 [.row 950 8 0 (List.length (mG l)),.agg (zaP x)] [(950,gV (mG l))])by obtain⟨y,e,r,rfl,h⟩:=H;exact⟨r,e,h⟩
 have m1007:∀k:Nat,k<=l.length->Sat Q (zmJ l x k):=by
  intro k hk;refine sat_of (λy=>zD1) ?_;have hraw:mG l++[[I x.g,I x.G,I x.E,I x.U,I x.q,I x.c.p,I x.c.n,I x.c.S]]=mG (l++[x]):=by(try simp only[<-zbW zaP]);rfl
  have hraw2:[I x.g,I x.G,I x.E,I x.U,I x.q,I x.c.p,I x.c.n,I x.c.S]=zaP x:=rfl;have hk1:((k:Int)+1).toNat=k+1:=by omega
  have hA:(l++[x]).length=l.length+1:=by simp
  simp(disch:=omega)only[zW,zL,hraw,hraw2,zbW zaP,hk1,zae,hA,<-zd3,<-ze5,<-zct,zgx zaP,zbN];generalize hX:(List.take (k+1) (l++[x])++List.take (l.length+1-(k+1)) (List.take (l.length+1-k) (List.drop k (l++[x])))++List.drop (k+1+Min.min (List.take (l.length+1-k) (List.drop k (l++[x]))).length (l.length+1-(k+1))) (l++[x]))=X
  have hXl:X.length=l.length+1:=by rw[<-hX];simp only[zM,zcH,zdk];omega
  have hXm:∀g∈X,g=x\/g∈l:=by
   intro g hg
   have:g∈l++[x]:=by
    rw[<-hX]at hg;rcases zaX.1 hg with hg|hg
    . rcases zaX.1 hg with hg|hg
      .exact zb7 hg
      .exact zdW (zb7 (zb7 hg))
    .exact zdW hg
   rcases zaX.1 this with h|h
   .exact Or.inr h
   .exact Or.inl (by simpa using h)
  have hkX:k<X.length:=by omega
  simp(disch:=omega)only[zgU,zaa hkX,zad,hXl,zbg,zam];refine za1 ⟨X.set k x,rfl,by simp;omega,?_⟩;intro g hg;rcases zdE hg with h|h
  .exact hXm g h
  .exact Or.inl h
 have m1004:∀k:Nat,k<=l.length->Sat Q (zmI l x k):=by
  intro k hk;refine sat_of (λy=>zD0) ?_;by_cases h0:0<k
  . have hkl:k-1<l.length:=by omega
    have hk1:((k:Int)-1).toNat=k-1:=by omega
    obtain⟨v,ev⟩:=zAz l[k-1] x;simp(disch:=omega)only[zL,zaz,hk1,zaI,zab,zgU,zaa hkl,zad,ev,zaG]
    cases v with
    |true=>simp only[zQ];exact m1007 k hk
    |false =>
      simp(disch:=omega)only[zY,zI,zbN,zam,zgx zaP];refine za1 ⟨l.set (k-1) x,rfl,by simp,?_⟩;intro g hg;rcases zdE hg with h|h
      .exact Or.inr h
      .exact Or.inl h
  .simp(disch:=omega)only[zaC];exact m1007 k hk
 have m1:∀k:Nat,k<=l.length->Sat Q (zp8 l x k):=by
  intro k
  induction k with
  |zero=>intro hk;refine sat_of (λy=>zzB) ?_;simp(disch:=omega)only[zaC];exact m1004 0 hk
  |succ k ih =>
    intro hk;have hkl:k<l.length:=by omega
    have hk1:((k+1:Nat):Int)-1=k:=by omega
    refine sat_of (λy=>zzB) ?_;obtain⟨v,ev⟩:=zAz x l[k];simp(disch:=omega)only[zE,hk1,zaI,zgU,zaa hkl,ev,zaG]
    cases v with
    |true=>simp only[zaM];exact ih (by omega)
    |false=>simp only[zaB];exact m1004 (k+1) hk
 refine sat_of (λy=>zLf) ?_;simp only[zab];exact m1 l.length (by omega)
def zi1(s:zaZ)(g:zbL):Prop:=∃e,FitsE s e/\g.g=e.g/\g.G=e.G/\g.q=e.q
def zog(s:zaZ)(hs:zc7 s)(l:aP)(hl:l.length<=2000)(hp:∀e∈l,e.r.length<=1000000):∃m,cw 65 [.agg (za4 s),.sl 9 (mA l)] []=some (zrF (m,0))/\m.T.length<=l.length/\(∀g∈m.T,zi1 s g)/\m.xs.length<=40000:=by
 let Q:AV×Mem->Prop:=λy=>∃m,y=zrF (m,0)/\m.T.length<=l.length/\(∀g∈m.T,zi1 s g)/\m.xs.length<=40000
 suffices H:Sat Q (cw 65 [.agg (za4 s),.sl 9 (mA l)] [])by obtain⟨y,e,r,rfl,h⟩:=H;exact⟨r,e,h⟩
 have hsd:=hs.seeds;have hm16:=hs.markers.1;obtain⟨c,ec,pc,_⟩:=zCv l hl hp;have hcl:c.length<=l.length:=by rw[pc.length_eq];exact zAE
 have hcp:∀e∈c,e.r.length<=1000000:=λe he=>hp e (zAF (pc.mem_iff.1 he))
 obtain⟨r2,e2,v1,v2⟩:=c_all s hs c (by omega) hcp;refine sat_of (λy=>zJ7) ?_;simp only[zJ,ztC hs,zcj,ec,zqI,e2,zwe];refine zds c (λi _=>∀out:List zbL,(out.length:Int)<=i->(∀g∈out,zi1 s g)->Sat Q (zgp s (c,0) r2 (mG out) i)) ?_ ?_ [] (by simp) (by simp)
 .intro out ho hg;refine sat_of (λy=>zx5) ?_;simp(disch:=omega)only[zN,zam];rw[zar (by simp)];exact za1 ⟨⟨out,r2.1⟩,rfl,by dsimp only;omega,hg,v2⟩
 . intro i hi _ _ ih out ho hg;have stay:Sat Q (zgp s (c,0) r2 (mG out) ((i:Int)+1)):=ih out (by omega) hg;have hiv:i<r2.2.length:=by omega
   refine sat_of (λy=>zx5) ?_;obtain⟨b,eb⟩:=c_stopped s hs c (by omega) i hi;simp(disch:=omega)only[zE,zdN,zaa hi,zg8 s.B _ (show s.B.length<=1000000 by omega) (zrJ hs),zfx,zq7,zaa hiv,zAy s hs c[i] hs.short2 (hcp _ (zaq hi)),zaG,eb,zaG,zvd s.u _ (show s.u.length<=1000000 by omega),zqk]
   cases(seedR (seedOf s.B c[i].g)).2 with
   |true=>simp only[zaM];exact stay
   |false =>
     simp only[zaB]
     cases r2.2[i]with
     |true=>simp only[zaM];exact stay
     |false =>
       simp only[zaB];by_cases hf:FitsE s c[i]
       . simp only[zQ,zbP hf]
         cases b with
         |true=>simp only[zaM];exact stay
         |false =>
           simp only[zaB,eq_self,zbg];obtain⟨r,er,h1,h2⟩:=c_put out ⟨c[i].g,c[i].G,(zsC (zsB s.u c[i].c.n)).1.ID,(zsC (zsB s.u c[i].c.n)).1.U,c[i].q,⟨c[i].c.p,c[i].c.n,c[i].c.S⟩⟩ (by omega);simp only[zab]at er;simp only[er,zwf];refine ih r (by omega) ?_;intro g hgm;rcases h2 g hgm with rfl|h
           .exact⟨c[i],hf,rfl,rfl,rfl⟩
           .exact hg g h
       .simp only[zY,zb1 hf];exact stay
def worth(g:zbL):Int:=if g.q<0 then 0 else g.q
def zi0(g:zbL):0<=worth g:=by unfold worth;split<;>omega
def cmpI(a b:Int):Int:=if a<b then -1 else if b<a then 1 else 0
def firstNZ:List Int->Int
 |[]=>0
 |x::r=>if x=0 then firstNZ r else x
def cmpS(a b:zb8):Int:=firstNZ [cmpI a.p b.p,cmpI a.n b.n,cmpI a.S b.S]
def stepD(b:zbL×Bool)(g:zbL):zbL×Bool:=
 if g.U<2 then b
 else if b.2=false\/b.1.U<g.U\/(g.U=b.1.U/\0<=cmpS g.c b.1.c)then(g,true)else b
def zmC(l:ae):zbL×Bool:=l.foldl stepD (⟨0,0,0,0,0,⟨0,0,0⟩⟩,false)
def sumW(l:ae):Int:=l.foldl (λs g=>s+worth g) 0
def mean(l:ae):Int:=if(l.length:Int)<=2*(sumW l).tmod l.length then(sumW l).tdiv l.length+1 else(sumW l).tdiv l.length
def sumW_acc(l:ae)(s:Int):l.foldl (λs g=>s+worth g) s=s+sumW l:=by
 unfold sumW
 induction l generalizing s with
 |nil=>simp
 |cons g r ih=>simp only[zdL];rw[ih,ih (0+worth g)];omega
def zwu(g:zbL)(l:ae):sumW (g::l)=worth g+sumW l:=by have:=sumW_acc l (0+worth g);unfold sumW at this ⊢;simp only[zdL];rw[this];omega
def zsS(l:ae):0<=sumW l:=by
 induction l with
 |nil=>simp[sumW]
 |cons g r ih=>rw[zwu];have:=zi0 g;omega
def sumW_le(l:ae)(M:Int)(h:∀g∈l,worth g<=M):sumW l<=l.length*M:=by
 induction l with
 |nil=>simp[sumW]
 |cons g r ih =>
   have h1:=ih (λg hg=>h g (by simp[hg]));have h2:=h g (by simp);rw[zwu,zaJ]
   have:((r.length+1:Nat):Int)*M=r.length*M+M:=by rw[zhm,zhl];simp
   omega
def minW(l:ae)(m:Int):Int:=l.foldl (λm g=>if worth g<m then worth g else m) m
def maxW(l:ae)(m:Int):Int:=l.foldl (λm g=>if m<worth g then worth g else m) m
def zgK(r:zbQ)(l:ae):zdG:=
 if(zmC l).2=true then⟨3,worth (zmC l).1⟩
 else match l with
  |[]=>⟨0,0⟩
  |[g]=>if r.xo=true then⟨1,0⟩else⟨3,worth g⟩
  |g::_=>if r.L<maxW l (worth g)-minW l (worth g)then⟨2,0⟩else⟨3,mean l⟩
def minW_bd(l:ae):∀(m:Int),0<=m->0<=minW l m/\minW l m<=m:=by
 induction l with
 |nil=>intro m hm;exact⟨hm,zgk _⟩
 |cons g r ih =>
   intro m hm;have hw:=zi0 g;simp only[minW,zdL];split
   .have:=ih (worth g) hw;unfold minW at this;omega
   .exact ih m hm
def maxW_bd(l:ae)(M:Int)(h:∀g∈l,worth g<=M):∀(m:Int),m<=M->m<=maxW l m/\maxW l m<=M:=by
 induction l with
 |nil=>intro m hm;exact⟨zgk _,hm⟩
 |cons g r ih =>
   intro m hm;have hw:=h g (by simp);have ih':=ih (λg hg=>h g (by simp[hg]));simp only[maxW,zdL];split
   .have:=ih' (worth g) hw;unfold maxW at this;omega
   .exact ih' m hm
def chkR(r:zbQ):Int:=if r.L<0 then 2 else if 40<r.L then 2 else 0
def countG(m:zbk)(n p:Int):List zbL:=m.T.filter λg=>g.g==n&&g.G==p
def verdAt(r:zbQ)(m:zbk)(x:zaK)(p:zaQ)(c:zbC)(o:Option (Nat×GSeed))(i:Nat):zdG:=
 match p.d[i]?,c.x[i]? with
 |some y,some w =>
   if y.k=2\/w≠0 then⟨3,if 0 > zeF p c x.I i then 0 else zeF p c x.I i⟩
   else match o with
    |some (_,sd)=>⟨3,sd.xc.getD i 0⟩
    |none=>zgK r (countG m x.l i)
 |_,_=>⟨0,0⟩
def verdL(r:zbQ)(m:zbk)(x:zaK)(p:zaQ)(c:zbC)(o:Option (Nat×GSeed)):List zdG:=(List.range p.d.length).map (verdAt r m x p c o)
def verdS(r:zbQ)(s:zaZ)(m:zbk)(x:zaK):List zdG:=
 match zfu s.h x with
 |some (k,p)=>verdL r m x p ((s.H[k]?).getD ⟨[],[]⟩) (seedOf s.B x.l)
 |none=>[]
def SmallM(m:zbk):Prop:=m.T.length<=1000000/\∀g∈m.T,g.q<=1099511627776
def SmallM.count{m:zbk}(h:SmallM m)(n p:Int):(countG m n p).length<=1000000/\∀g∈countG m n p,g.q<=1099511627776:=
 ⟨za5 (List.length_filter_le _ _) h.1,λg hg=>h.2 g (List.mem_filter.1 hg).1⟩
def verdS_len{r:zbQ}{s:zaZ}(hs:zc7 s){m:zbk}{x:zaK}:(verdS r s m x).length<=24:=by
 unfold verdS
 cases hk:zfu s.h x with
 |none=>simp
 |some q=>obtain⟨k,p⟩:=q;have:=(hs.okPaper (zfV hk).1).2.2.1.2;simp[verdL];omega
def MarkedP(p:zaQ)(c:zbC)(l:aQ):Prop:=
 ∀(j:Nat) (x:GPart) (w v:Int),p.d[j]?=some x->c.x[j]?=some w->l[j]?=some v->w=0->PermP x v
def termT(x:GPart)(w v:Int):Int:=if w=1 then x.N else if w=2 then 0 else if 0 > v then 0 else v
def sumT:List GPart->List Int->List Int->Int
 |x::ps,w::ws,v::vs=>termT x w v+sumT ps ws vs
 |_,_,_=>0
def stateL(l:List zdG):Int:=l.foldl (λs v=>if v.xp<s then v.xp else s) 3
def zCW{r:zbQ}{s:zaZ}{m:zbk}{x:zaK}{k:Nat}{p:zaQ}(hk:zfu s.h x=some (k,p)):(verdS r s m x).length=p.d.length:=by unfold verdS;rw[hk];simp[verdL]
def zJS(l:ae)(h:(zmC l).2=true):(zmC l).1∈l:=by
 have key:∀(r:ae) (b:zbL×Bool),(∀g∈r,g∈l)->(b.2=true->b.1∈l)->(r.foldl stepD b).2=true->(r.foldl stepD b).1∈l:=by
  intro r
  induction r with
  |nil=>intro b _ hb h;exact hb h
  |cons g r ih =>
    intro b hr hb h;refine ih (stepD b g) (λx hx=>hr x (by simp[hx])) ?_ h;unfold stepD;split
    .exact hb
    . split
      .intro _;exact hr g (by simp)
      .exact hb
 exact key l _ (λ_ h=>h) (by simp) h
def mean_bd(l:ae)(h0:l≠[])(M:Int)(hw:∀g∈l,worth g<=M):0<=mean l/\mean l<=M:=by
 have hpos:0<l.length:=zee.2 h0;have h1:=sumW_le l M hw;have h2:=zsS l;have h3:0<=(sumW l).tmod l.length:=Int.tmod_nonneg _ h2;have h4:(sumW l).tmod l.length<l.length:=zd5 _ (by omega);have h5:0<=(sumW l).tdiv l.length:=Int.tdiv_nonneg h2 (by omega);have h6:=zgs (sumW l) l.length;unfold mean;split
 . refine⟨by omega,?_⟩;by_cases hq:M<=(sumW l).tdiv l.length
   .have:=zeX hq (show(0:Int)<=(l.length:Int)by omega);omega
   .omega
 . refine⟨h5,?_⟩;by_cases hq:M+1<=(sumW l).tdiv l.length
   .have:=zeX hq (show(0:Int)<=(l.length:Int)by omega);rw[Int.mul_add]at this;omega
   .omega
def decideV_bd(r:zbQ)(l:ae)(M:Int)(hM:0<=M)(hw:∀g∈l,worth g<=M):(0<=(zgK r l).xp/\(zgK r l).xp<=3)/\0<=(zgK r l).q/\(zgK r l).q<=M:=by
 unfold zgK;split
 .rename_i h;exact⟨by simp,zi0 _,hw _ (zJS l h)⟩
 . split
   .exact⟨by simp,by simp,by simpa using hM⟩
   . rename_i g _ ;split
     .exact⟨by simp,by simp,by simpa using hM⟩
     .exact⟨by simp,zi0 _,hw g (by simp)⟩
   . split
     .exact⟨by simp,by simp,by simpa using hM⟩
     .exact⟨by simp,mean_bd _ (by simp) M hw⟩
def zIa{p:zaQ}{c:zbC}{a:aQ}{i:Nat}{y:GPart}(hy:p.d[i]?=some y)(ho:OkPart y):0<=(if 0 > zeF p c a i then 0 else zeF p c a i)/\(if 0 > zeF p c a i then 0 else zeF p c a i)<=y.N/\PermP y (if 0 > zeF p c a i then 0 else zeF p c a i):=by
 have hm:=ho.1;have hk:=kind2 ho
 have key:zeF p c a i=y.N/\y.k=2\/zeF p c a i<=0:=by
  unfold zeF;rw[hy];split
  . rename_i x ks v h1 h2 h3;injection h1 with h1;subst h1;split
    .right;omega
    . split
      .left;exact⟨rfl,by omega⟩
      .right;split<;>omega
  .right;omega
 unfold PermP;rcases key with⟨h1,h2⟩|h1
 .rw[iNQ,if_pos h2,h1];exact⟨by omega,by omega,by omega⟩
 . have:(if 0 > zeF p c a i then 0 else zeF p c a i)=0:=by split<;>omega
   rw[this];refine⟨by omega,by omega,?_⟩;split<;>omega
def verd_ok(r:zbQ)(s:zaZ)(hs:zc7 s)(m:zbk)(hg:∀g∈m.T,zi1 s g)(x:zaK)(hx:x∈s.j)(k:Nat)(p:zaQ)(c:zbC)(hk:zfu s.h x=some (k,p))(hc:s.H[k]?=some c)
  (i:Nat) (y:GPart) (hy:p.d[i]?=some y):(0<=(verdAt r m x p c (seedOf s.B x.l) i).xp/\(verdAt r m x p c (seedOf s.B x.l) i).xp<=3)/\0<=(verdAt r m x p c (seedOf s.B x.l) i).q/\(verdAt r m x p c (seedOf s.B x.l) i).q<=y.N/\PermP y (verdAt r m x p c (seedOf s.B x.l) i).q:=by
 have hpk:=(zfV hk).1;have hok:=hs.schemes k p c hpk hc;have hyo:OkPart y:=hok.1.2.2.2.1 y (zau hy);have hy1:=hyo.1;have hlt:=(zal.1 hy).1;have hiw:i<c.x.length:=by have:=hok.2.2.1;omega
 have hso:=zKv hs.scripts.2.2 hx;have hpo:zhh s x.l=some (k,p):=by unfold zhh;rw[hso];exact hk
 unfold verdAt;rw[hy,zaa hiw];dsimp only;split
 .exact⟨by simp,zIa hy hyo⟩
 . rename_i hn;have hk1:y.k=1:=by have:=kind2 hyo;omega
   have perm:∀v,0<=v->v<=y.N->PermP y v:=by intro v h0 h1;unfold PermP;rw[iNQ];omega
   cases ho:seedOf s.B x.l with
   |some q =>
     obtain⟨q,sd⟩:=q;obtain⟨k',p',hpo',hmk⟩:=zyP hs ho;rw[hpo]at hpo';cases hpo';have him:i<sd.xc.length:=by have:=hmk.1;omega
     have hb:=hmk.2 i y _ hy (zaa him);have hgd:sd.xc.getD i 0=sd.xc[i]:=by simp[him]
     dsimp only;rw[hgd];exact⟨by simp,hb.1,hb.2,perm _ hb.1 hb.2⟩
   |none =>
     dsimp only
     have hw:∀g∈countG m x.l i,worth g<=y.N:=by intro g hgm;obtain⟨hgm,hgp⟩:=List.mem_filter.1 hgm;simp only[zaU,beq_iff_eq]at hgp;obtain⟨e,⟨x',a1,_,_,k',p',y',a2,a0,a3,_,a4,_⟩,b1,b2,b3⟩:=hg g hgm;rw[<-b1,hgp.1,hso]at a1;cases a1;rw[hk]at a2;cases a2;rw[<-b2,hgp.2,zae,hy]at a3;cases a3;unfold worth;split<;>omega
     obtain⟨h1,h2,h3⟩:=decideV_bd r _ y.N (by omega) hw;exact⟨h1,h2,h3,perm _ h2 h3⟩
def ztD(r:zbQ):cw 81 [.agg (zcV r)] []=some (za9 (chkR r)):=by
 refine zIv ?_;unfold chkR;simp only[zS];split
 .rfl
 .split<;>rfl
def cmp_less(a b:zb8):decide (0<=cmpS a b)=!lessS a b:=by
 unfold cmpS lessS;simp only[firstNZ,cmpI];by_cases h1:a.p=b.p
 . by_cases h2:a.n=b.n
   . by_cases h3:a.S<b.S
     .simp[h1,h2,h3]
     . by_cases h4:b.S<a.S
       .simp[h1,h2,h3,h4]
       .simp[h1,h2,h3,h4]
   . by_cases h3:a.n<b.n
     .simp[h1,h2,h3]
     . have h4:b.n<a.n:=by omega
       simp[h1,h2,h3,h4]
 . by_cases h3:a.p<b.p
   .simp[h1,h3]
   . have h4:b.p<a.p:=by omega
     simp[h1,h3,h4]
def mean_ref(l:ae)(h0:l≠[]):(2*sumW l+l.length).tdiv (2*l.length)=mean l:=by
 have hpos:0<l.length:=zee.2 h0;have h2:=zsS l;have h3:0<=(sumW l).tmod l.length:=Int.tmod_nonneg _ h2;have h4:(sumW l).tmod l.length<l.length:=zd5 _ (by omega);have h6:=zgs (sumW l) l.length;generalize hn:(l.length:Int)=n at *;generalize hq:(sumW l).tdiv n=q at *;generalize hr:(sumW l).tmod n=t at *
 have key:∀e:Int,0<=e->e<2*n->2*sumW l+n=2*n*(q+(if n<=2*t then 1 else 0))+e->(2*sumW l+n).tdiv (2*n)=q+(if n<=2*t then 1 else 0):=by intro e he0 he1 he;rw[zfl (by omega),he,Int.mul_add_ediv_left _ _ (by omega),Int.ediv_eq_zero_of_lt he0 he1,zg6]
 have hm:mean l=q+(if n<=2*t then 1 else 0):=by unfold mean;rw[hn,hq,hr];split<;>omega
 rw[hm];split at key
 .rename_i hc;rw[if_pos hc];refine key (2*t-n) (by omega) (by omega) ?_;rw[Int.mul_add,Int.mul_assoc,<-h6];omega
 .rename_i hc;rw[if_neg hc];refine key (2*t+n) (by omega) (by omega) ?_;rw[zg6,Int.mul_assoc,<-h6];omega
def mean_one(g:zbL):mean [g]=worth g:=by
 have h:=zi0 g;have h1:sumW [g]=worth g:=by rw[zwu];simp[sumW]
 unfold mean;rw[h1];simp only[zaJ,zba];have h2:(worth g).tmod (((0+1:Nat):Nat):Int)=0:=by simp
 have h3:(worth g).tdiv (((0+1:Nat):Nat):Int)=worth g:=by simp
 rw[h2,h3];simp
def zFQ(r:zbQ)(l:ae)(hl:l.length<=100000)(hv:∀g∈l,g.q<=1099511627776):cw 202 [.agg (zcV r),.sl 8 (mG l)] []=some (zhi (zgK r l)):=by
 have hw:∀g∈l,worth g<=1099511627776:=λg hg=>by have:=hv g hg;unfold worth;split<;>omega
 have hs:sumW l<=109951162777600000:=by have h1:=sumW_le l _ hw;have h2:(l.length:Int)*1099511627776<=100000*1099511627776:=zeR (by omega) (by omega);omega
 have hs0:=zsS l;refine zF1 ?_
 have second:(zmC l).2=false->∀g,l[0]?=some g->(l.length=1->r.xo=false)->zir r l 0 (worth g) 0 0=some (zhi (zgK r l)):=by
  intro hd g hg h1;have hlpos:0<l.length:=(zal.1 hg).1;have hne:l≠[]:=zee.1 hlpos;have hgm:=zau hg;have hmean:=mean_ref l hne;have hmb:=mean_bd l hne _ hw;have q1:=minW_bd l (worth g) (zi0 g);have q2:=maxW_bd l _ hw 0 (by omega)
  have hdv:zgK r l=if l.length=1 then⟨3,mean l⟩else if r.L<maxW l 0-minW l (worth g)then⟨2,0⟩else⟨3,mean l⟩:=by
   unfold zgK;rw[if_neg (by simp[hd])]
   match l,hg,h1 with
   |[],hg,_=>simp at hg
   |[x],hg,h1=>dsimp only;rw[if_neg (by simp[h1 rfl]),mean_one];simp
   |x::y::t,hg,_ =>
     simp only[zbI,zaf]at hg;subst hg
     have hm:maxW (x::y::t) 0=maxW (x::y::t) (worth x):=by have:=zi0 x;simp only[maxW,zdL];congr 1;split<;>split<;>omega
     rw[hm];simp
  refine zds l (λi s=>∀(q a b:Int),0<=q->q+sumW s=sumW l->minW s a=minW l (worth g)->maxW s b=maxW l 0->zir r l q a b i=some (zhi (zgK r l))) ?_ ?_ 0 (worth g) 0 (by omega) (by simp) rfl rfl
  . intro q a b hq hqs ha hb;have hqs':q=sumW l:=by simpa[sumW]using hqs
    have ha':a=minW l (worth g):=ha;have hb':b=maxW l 0:=hb;have hwg:=hw g hgm;refine zvL ?_;simp(disch:=omega)only[zN,zL,hqs',hmean,ha',hb'];rw[hdv];by_cases h2:l.length=1
    .simp(disch:=omega)only[zaC,if_pos h2];rfl
    .rw[if_neg h2];simp(disch:=omega)only[zaz];simp only[zS];split<;>rfl
  . intro i hi s _ ih q a b hq hqs ha hb;have hwi:=hw _ (zaq hi);have hwi0:=zi0 l[i];have hss:=zsS s;rw[zwu]at hqs;have hwo:(if 0 > l[i].q then 0 else l[i].q)=worth l[i]:=by unfold worth;rfl
    refine zvL ?_;simp(disch:=omega)only[zE,zgU,zaa hi,hwo];exact ih _ _ _ (by omega) (by omega) ha hb
 have first:=zds l (λi s=>∀(b:zbL×Bool) (k:Int),s.foldl stepD b=zmC l->(b.2=false->k=-1)->(b.2=true->0<=k/\l[k.toNat]?=some b.1)->zeH r l k i=some (zhi (zgK r l))) ?_ ?_ (⟨0,0,0,0,0,⟨0,0,0⟩⟩,false) (-1) rfl (by simp) (by simp)
 .exact first
 . intro b k hb hk0 hk1;have hb':b=zmC l:=hb;subst hb';refine zvK ?_
   cases hd:(zmC l).2 with
   |true=>obtain⟨h0,hkl⟩:=hk1 hd;simp(disch:=omega)only[zN,zaz,zam,zgU,hkl,zad];rw[show zgK r l=⟨3,worth (zmC l).1⟩by unfold zgK;rw[if_pos hd]];rfl
   |false =>
     have hk:=hk0 hd;subst hk;simp(disch:=omega)only[zN];by_cases hz:l.length=0
     .have:l=[]:=zcr hz;subst this;rfl
     . have hlt:0<l.length:=by omega
       have hz':((l.length:Int)==0)=false:=by simp only[zU];omega
       have hwo:(if(0:Int) > (l[0]'hlt).q then(0:Int)else(l[0]'hlt).q)=worth (l[0]'hlt):=by unfold worth;rfl
       simp(disch:=omega)only[hz',zaB,zam,zgU,show l[Int.toNat 0]?=some l[0]from zaa hlt,zad,hwo];by_cases h1:l.length=1
       . simp only[show((l.length:Int)==1)=true by simp[h1],zaM]
         cases hdb:r.xo with
         |true =>
           simp only[zaM]
           match l,h1 with
           |[x],_=>unfold zgK;rw[if_neg (by simp[hd])];dsimp only;rw[if_pos hdb];rfl
         |false=>simp only[zaB];exact second hd _ (zaa hlt) (λ_=>hdb)
       .simp only[show((l.length:Int)==1)=false by simp only[zU];omega,zaB];exact second hd _ (zaa hlt) (λh=>absurd h h1)
 . intro i hi s _ ih b k hb hk0 hk1;rw[zdL]at hb;have keep:stepD b l[i]=b->zeH r l k ((i:Int)+1)=some (zhi (zgK r l)):=λh=>ih b k (by rw[h]at hb;exact hb) hk0 hk1
   have take:stepD b l[i]=(l[i],true)->zeH r l i ((i:Int)+1)=some (zhi (zgK r l)):=λh=>ih (l[i],true) i (by rw[h]at hb;exact hb) (by simp) (λ_=>⟨by omega,by simp[hi]⟩)
   refine zvK ?_;simp(disch:=omega)only[zE,zgU,zaa hi];by_cases h2:2<=l[i].U
   . simp(disch:=omega)only[zaz]
     cases hb2:b.2 with
     |false=>have hk:=hk0 hb2;simp(disch:=omega)only[zaz];exact take (by unfold stepD;rw[iNQ,if_pos (Or.inl hb2)])
     |true =>
       obtain⟨h0,hkl⟩:=hk1 hb2;simp(disch:=omega)only[zaC,zam,zgU,hkl,zad,zaa hi];by_cases h3:b.1.U<l[i].U
       .simp(disch:=omega)only[zaz];exact take (by unfold stepD;rw[iNQ,if_pos (Or.inr (Or.inl h3))])
       . simp(disch:=omega)only[zaC];by_cases h4:l[i].U=b.1.U
         . simp only[show(l[i].U==b.1.U)=true by simpa using h4,zaM,zq4,zaG];have hc:=cmp_less l[i].c b.1.c
           cases hls:lessS l[i].c b.1.c with
           |false=>simp only[zY];rw[hls]at hc;exact take (by unfold stepD;rw[iNQ,if_pos (Or.inr (Or.inr ⟨h4,by simpa using hc⟩))])
           |true =>
             simp only[zQ];rw[hls]at hc;have hc':¬0<=cmpS l[i].c b.1.c:=by simpa using hc
             exact keep (by unfold stepD;rw[iNQ,if_neg (λh=>h.elim (λh=>by simp[hb2]at h) (λh=>h.elim h3 (λh=>hc' h.2)))])
         .simp only[show(l[i].U==b.1.U)=false by simpa using h4,zaB];exact keep (by unfold stepD;rw[iNQ,if_neg (λh=>h.elim (λh=>by simp[hb2]at h) (λh=>h.elim h3 (λh=>h4 h.1)))])
   .simp(disch:=omega)only[zaC];exact keep (by unfold stepD;rw[iPQ])
def zDn(m:zbk)(n p:Int)(hl:m.T.length<=1000000):cw 203 [.agg (zbR m),I n,I p] []=some (znq (countG m n p)):=by
 refine zDG ?_;refine zds m.T (λi r=>∀out:List zbL,(out.length:Int)<=i->zhd m n p (mG out) i=some (znq (out++r.filter λg=>g.g==n&&g.G==p))) ?_ ?_ [] (by simp)
 .intro out _;refine zto ?_;simp(disch:=omega)only[zI,zaC,List.filter_nil,zf0];rfl
 . intro i hi r _ ih out ho;refine zto ?_;simp(disch:=omega)only[zE,zgU,zaa hi,zbg,zbW zaP,List.filter_cons]
   cases m.T[i].g==n with
   |false=>simp only[zK,zaB,zeW];exact ih out (by omega)
   |true =>
     simp only[zaM,zdK]
     cases m.T[i].G==p with
     |false=>simp only[zK,zaB];exact ih out (by omega)
     |true=>simp only[zaM,if_true];have:=ih (out++[m.T[i]]) (by simp;omega);rw[zcA,zeY]at this;exact this
def verdR(r:zbQ)(s:zaZ)(m:zbk)(n:Int):List zdG×Int:=if chkR r=0 then match zgA s.j n with|some x=>(verdS r s m x,0)|none=>([],4)else([],1)
def zDo(r:zbQ)(s:zaZ)(hs:zc7 s)(m:zbk)(hg:m.T.length<=100000)(hm:SmallM m)(n:Int):cw 179 [.agg (zcV r),.agg (za4 s),.agg (zbR m),I n] []=some (zke (verdR r s m n)):=by
 have hx60:=hs.scripts.1;have hp32:=hs.papers;have hsd:=hs.seeds;refine zDH ?_;unfold verdR;simp only[zJ,ztC hs,zcj,ztD,zcj];by_cases hr:chkR r=0
 case neg=>rw[if_neg hr];simp only[show(chkR r !=0)=true by simpa using hr,zaM];rfl
 rw[if_pos hr];simp(disch:=omega)only[zJ,hr,zl5 s.j n (show s.j.length<=1000000 by omega),ziM]
 cases hso:zgA s.j n with
 |none=>simp only[zY,scR];rfl
 |some x =>
   obtain⟨hx,hxn⟩:=zpK hso;subst hxn;obtain⟨k,p,c,hk,hc,ha⟩:=hs.script x hx;have hpk:=(zfV hk).1;have hok:=hs.schemes k p c hpk hc;have hparts:=hok.1.2.2.1;have hwl:=hok.2.2.1;have hpo:zhh s x.l=some (k,p):=by unfold zhh;rw[hso];exact hk
   obtain⟨rc,erc,hrc,hrc2⟩:=zoW p c x.I (hs.short c (zau hc));have hz:=hrc.2 ⟨hok,ha⟩;have hcl:=hrc2 hz;obtain⟨rc1,rc2⟩:=rc;simp only at hz hcl;subst hz;subst hcl
   have hvS:verdS r s m x=verdL r m x p c (seedOf s.B x.l):=by unfold verdS;rw[hk];dsimp only;rw[hc];rfl
   dsimp only;rw[hvS];simp(disch:=omega)only[zQ,zF,scR,zhu s x.l (show s.j.length<=1000000 by omega) (show s.h.length<=1000000 by omega),hpo,ixR,zdf,zdF,hpk,zjq,hc,erc,zoh,zg8 s.B x.l (show s.B.length<=1000000 by omega) (zrJ hs),zfx,zci];have loop:=zds p.d (λi _=>zhe r s m x.l ((k:Int),true) (zoX p c x.I,0) (seedR (seedOf s.B x.l)) (sA ((List.range i.toNat).map (verdAt r m x p c (seedOf s.B x.l)))) i=some (zke (verdL r m x p c (seedOf s.B x.l),0))) ?_ ?_
   .exact loop
   .refine ztp ?_;simp(disch:=omega)only[zW,zF,zdF,hpk,zdT,zaC,zav];rw[zar (by simp)];rfl
   . intro i hi _ _ ih;have hiw:i<c.x.length:=by omega
     have hix:((i:Int)+1).toNat=i+1:=by omega
     rw[hix,List.range_succ]at ih;simp only[zct]at ih;simp only[zbx]at ih;simp only[zeN]at ih;(try simp only[<-zbW zdJ]at ih);have hcl:i<(zoX p c x.I).length:=by simp[zoX];omega
     have hcv:(zoX p c x.I)[i]=zeF p c x.I i:=by simp[zoX]
     have hkd:=kind2 (hok.1.2.2.2.1 _ (zaq hi))
     have hva:verdAt r m x p c (seedOf s.B x.l) i=if p.d[i].k=2\/c.x[i]≠0 then⟨3,if 0 > zeF p c x.I i then 0 else zeF p c x.I i⟩else match seedOf s.B x.l with
        |some (_,sd)=>⟨3,sd.xc.getD i 0⟩
        |none=>zgK r (countG m x.l i):=by
       unfold verdAt;rw[zaa hi,zaa hiw]<;>rfl
     have hlr:(List.map (verdAt r m x p c (seedOf s.B x.l)) (List.range i)).length=i:=by simp
     have m1015:(p.d[i].k=2\/c.x[i]≠0)->zjf r s m x.l ((k:Int),true) (zoX p c x.I,0) (seedR (seedOf s.B x.l)) (sA ((List.range i).map (verdAt r m x p c (seedOf s.B x.l)))) i=some (zke (verdL r m x p c (seedOf s.B x.l),0)):=by intro hor;refine zx6 ?_;simp(disch:=omega)only[zR,zI,hlr,zcc,zaa hcl,hcv];rw[hva,if_pos hor]at ih;exact ih
     refine ztp ?_;simp(disch:=omega)only[zV,zdF,hpk,zve,zaG,zjq,hc,zcc,zaa hiw];by_cases h1:p.d[i].k=2
     .rw[zb1 (show¬OpenP p (i:Int)by rintro⟨_,y,h2,h3⟩;rw[zae,zaa hi]at h2;cases h2;omega)];simp only[zY];exact m1015 (Or.inl h1)
     . rw[zbP (show OpenP p (i:Int)from⟨by omega,_,by rw[zae];exact zaa hi,by omega⟩)];simp only[zQ];by_cases h2:c.x[i]=0
       . simp only[show(c.x[i] !=0)=false by simpa using h2,zaB];rw[if_neg (by rintro(h|h)<;>contradiction)]at hva
         cases ho:seedOf s.B x.l with
         |some q =>
           obtain⟨q,sd⟩:=q;obtain⟨k',p',hpo',hmk⟩:=zyP hs ho;rw[hpo]at hpo';cases hpo';have him:i<sd.xc.length:=by have:=hmk.1;omega
           rw[ho]at hva ih;have hgd:sd.xc.getD i 0=sd.xc[i]:=by simp[him]
           dsimp only at hva;rw[hva,hgd]at ih;simp(disch:=omega)only[zL,zI,seedR,zaM,zcc,zaa him,zad,zdT];simp only[seedR]at ih;exact ih
         |none=>rw[ho]at hva ih;dsimp only at hva;rw[hva]at ih;have hct:=hm.count x.l i;have hcl2:(countG m x.l i).length<=100000:=za5 (List.length_filter_le _ _) hg;simp(disch:=omega)only[zW,seedR,zaB,zDn m x.l i hm.1,zwf,zav];rw[zar (by simp)];simp(disch:=omega)only[zL,zI,zFQ r _ hcl2 hct.2,zAC,zdT];simp only[seedR]at ih;exact ih
       .simp only[show(c.x[i] !=0)=true by simpa using h2,zaM];exact m1015 (Or.inr h2)
def zFO(p:zaQ)(c:zbC)(l:aQ)(hs:Short c)(hok:zgr p c)(hl:l.length=p.d.length)(hm:MarkedP p c l):cw 204 [.agg (zaO p),.agg (zbU c),.sl 1 (List.map zaj l)] []=some (zao true):=by
 have hpl:=hok.1.2.2.1;have hwl:=hok.2.2.1;refine zFY ?_;simp only[zJ,zgc p c hs,zaG,zbP hok,zaS,zab,hl];refine zds l (λi _=>zj7 p c l i=some (zao true)) ?_ ?_
 .exact zvJ (by simp(disch:=omega)only[zN];rfl)
 . intro i hi _ _ ih;have hiw:i<c.x.length:=by omega
   have hip:i<p.d.length:=by omega
   refine zvJ ?_;simp(disch:=omega)only[zE,zcc,zaa hi,zaa hiw,zua p c i _ l[i] hs hok (zaa hip),zaG,ih];by_cases hw:c.x[i]=0
   .simp only[zQ,show(c.x[i]==0)=true by simpa using hw,zaM,zbP (hm i _ _ _ (zaa hip) (zaa hiw) (zaa hi) hw)]
   .simp only[show(c.x[i]==0)=false by simpa using hw,zaB]
def zH8(p:zaQ)(c:zbC)(l:aQ)(hs:Short c)(hok:zgr p c)(hl:l.length=p.d.length)(hm:MarkedP p c l):cw 180 [.agg (zaO p),.agg (zbU c),.sl 1 (List.map zaj l)] []=some (znf (sumT p.d c.x l,0)):=by
 have hpl:=hok.1.2.2.1;have hwl:=hok.2.2.1;refine zIk ?_;simp only[zJ,zgc p c hs,zaG,zbP hok,zaS,zab,hl,zFO p c l hs hok hl hm,zaG];have loop:=zds l (λi r=>∀a:Int,0<=a->a<=40*i->zjb p c l a i=some (znf (a+sumT (p.d.drop i.toNat) (c.x.drop i.toNat) r,0))) ?_ ?_ 0 (by omega) (by omega)
 .rw[loop];simp
 .intro a _ _;refine zwv ?_;have:p.d.drop ((l.length:Int)).toNat=[]:=zc0 (by omega);simp(disch:=omega)only[zN,this,sumT,zg6];rfl
 . intro i hi r _ ih a h0 h1;have hiw:i<c.x.length:=by omega
   have hip:i<p.d.length:=by omega
   have hix:((i:Int)+1).toNat=i+1:=by omega
   rw[hix]at ih;have hxo:=hok.1.2.2.2.1 _ (zaq hip);have hmx:=hxo.1;have hw:=(hok.2.2.2 i _ (c.xb[i]'(by have:=hok.2.1;omega)) _ (zaa hip) (zaa _) (zaa hiw)).2
   have hval:c.x[i]=0->l[i]<=40:=by intro h;have:=hm i _ _ _ (zaa hip) (zaa hiw) (zaa hi) h;unfold PermP at this;split at this<;>omega
   refine zwv ?_;simp(disch:=omega)only[zV,zcc,zaa hi,zaa hiw,zfj,zaa hip];rw[zbE hip,zbE hiw,sumT,<-Int.add_assoc];unfold termT;rw[w6Q (n:=(i:Int)+1)];by_cases h0':c.x[i]=0
   . have:=hval h0';simp only[show(c.x[i]==0)=true by simpa using h0',zaM];rw[if_neg (show¬c.x[i]=1 by omega),if_neg (show¬c.x[i]=2 by omega)];have hu:0<=(if(0:Int) > l[i]then(0:Int)else l[i])/\(if(0:Int) > l[i]then(0:Int)else l[i])<=40:=by split<;>omega
     generalize (if(0:Int) > l[i]then(0:Int)else l[i])=u at hu;rw[w6Q];exact ih _ (by omega) (by omega)
   . simp only[show(c.x[i]==0)=false by simpa using h0',zaB];by_cases h1':c.x[i]=1
     .simp only[show(c.x[i]==1)=true by simpa using h1',zaM];rw[if_pos h1',w6Q];exact ih _ (by omega) (by omega)
     .simp only[show(c.x[i]==1)=false by simpa using h1',zaB];rw[if_neg h1',iPQ,zg6];exact ih _ (by omega) (by omega)
def totV(r:zbQ)(s:zaZ)(m:zbk)(n:Int):Int×Int×Int:=
 if chkR r=0 then match zgA s.j n with
  |some x=>if stateL (verdS r s m x)=3 then(3,(match zfu s.h x with|some (k,p)=>sumT p.d ((s.H[k]?).getD ⟨[],[]⟩).x ((verdS r s m x).map (·.q))|none=>0),0)else(stateL (verdS r s m x),0,0)
  |none=>(0,0,4)
 else(0,0,1)
def marked_all(r:zbQ)(s:zaZ)(hs:zc7 s)(m:zbk)(hg:∀g∈m.T,zi1 s g)(x:zaK)(hx:x∈s.j)(k:Nat)(p:zaQ)(c:zbC)(hk:zfu s.h x=some (k,p))(hc:s.H[k]?=some c):MarkedP p c ((verdS r s m x).map (·.q)):=by
 intro j y w v hy _ hv _
 have hVe:verdS r s m x=(List.range p.d.length).map (verdAt r m x p c (seedOf s.B x.l)):=by unfold verdS;rw[hk];dsimp only;rw[hc];rfl
 have:=verd_ok r s hs m hg x hx k p c hk hc j y hy;obtain⟨hj2,rfl⟩:=zal.1 hv;have e:(List.map (λx=>x.q) (verdS r s m x))[j]=(verdAt r m x p c (seedOf s.B x.l) j).q:=by simp[hVe]
 rw[e];exact this.2.2.2
def ztE(r:zbQ)(s:zaZ)(hs:zc7 s)(m:zbk)(hgl:m.T.length<=100000)(hm:SmallM m)(hg:∀g∈m.T,zi1 s g)(n:Int):cw 140 [.agg (zcV r),.agg (za4 s),.agg (zbR m),I n] []=some (zqb (totV r s m n)):=by
 have hx60:=hs.scripts.1;have hp32:=hs.papers;unfold totV;refine zIw ?_;simp only[zDo r s hs m hgl hm n,zyx];unfold verdR;by_cases hr:chkR r=0
 case neg=>rw[if_neg hr,if_neg hr];simp only[show((1:Int) !=0)=true from rfl,zaM];rfl
 rw[if_pos hr,if_pos hr]
 cases hso:zgA s.j n with
 |none=>simp only[show((4:Int) !=0)=true from rfl,zaM];rfl
 |some x =>
   obtain⟨hx,hxn⟩:=zpK hso;subst hxn;obtain⟨k,p,c,hk,hc,_⟩:=hs.script x hx;have hpk:=(zfV hk).1;have hok:=hs.schemes k p c hpk hc;have hpo:zhh s x.l=some (k,p):=by unfold zhh;rw[hso];exact hk
   have hmk:=marked_all r s hs m hg x hx k p c hk hc;have hvp:=zCW (r:=r) (m:=m) hk;have hvl:=verdS_len (r:=r) hs (m:=m) (x:=x);simp only[zJ];rw[hk];dsimp only;rw[hc,zci];generalize hV:verdS r s m x=V at *;have loop:=zds V (λi rest=>∀(out:aQ) (a:Int),(out.length:Int)=i->out++rest.map (·.q)=V.map (·.q)->rest.foldl (λs v=>if v.xp<s then v.xp else s) a=stateL V->znP s x.l (V,0) (List.map zaj out) a i=some (zqb (if stateL V=3 then(3,sumT p.d c.x (V.map (·.q)),0)else(stateL V,0,0)))) ?_ ?_ [] 3 (by simp) rfl rfl
   .exact loop
   . intro out a ho hout ha;have ha':a=stateL V:=ha;have hout':out=V.map (·.q):=by simpa using hout
     subst ha';refine zwG ?_;simp(disch:=omega)only[zN];by_cases h3:stateL V=3
     .rw[if_pos h3];simp(disch:=omega)only[zJ,zF,h3,zhu s x.l (show s.j.length<=1000000 by omega) (show s.h.length<=1000000 by omega),hpo,ixR,zdf,zdF,hpk,zjq,hc,zaI,zav,zbg];rw[zar (by simp)];simp only[zH8 p c out (hs.short c (zau hc)) hok (by omega) (by rw[hout'];exact hmk),zBZ];rw[hout'];rfl
     .rw[if_neg h3];simp only[show(stateL V !=3)=true by simpa using h3,zaM];rfl
   .intro i hi rest _ ih out a ho hout ha;refine zwG ?_;simp(disch:=omega)only[zE,zGb,zaa hi,zbg,zbW zaj];exact ih (out++[V[i].q]) (if V[i].xp<a then V[i].xp else a) (by simp;omega) (by rw[zcA,zeY];exact hout) ha
end
section
open Go.Ab Go.RowKit Go.Shelf
def ora{f:FuncId}{o:List AV->Option (AV×Mem)}(hz:∀args,zOrc f args []=o args)(he:enters zP f=true)
  (H:∀args r ms',o args=some (r,ms')->ms'=[]/\∀(w:World) (S:aD) (κ:Kap) (vals:aV),vals.size=args.length->(∀g,S g->g<w.heap.size)->varsOk S w->(∀(k:Nat) (a:AV) (x:Value),args[k]?=some a->vals[k]?=some x->VRel S κ (Dm []) w a x)->Calls zP f vals w (Ab.Left S κ [] [] r w)):CallOK zP (single f zOrc):=by
 intro g args ms r ms' h;unfold single at h;split at h
 case isFalse=>cases h
 rename_i hg;subst hg
 cases ms with
 |cons a m=>have:zOrc g args (a::m)=none:=rfl;rw[this]at h;cases h
 |nil=>rw[hz]at h;obtain⟨rfl,h2⟩:=H args r ms' h;exact⟨he,λw S κ vals hvl hS hk hv _ _=>h2 w S κ vals hvl hS hk hv⟩
def leftP{S S':aD}{κ:Kap}{w w':World}{r:AV}{x:Value}(hb:Below w.heap.size w w')(hS:∀g,S g->g<w.heap.size)(h1:∀g,S g->S' g)(h2:∀g,S' g->S g\/w.heap.size<=g)(h3:∀g,S' g->g<w'.heap.size)
  (hr:RRel S' κ (Dm []) (Mine w κ (Dm [])) w' r x):Ab.Left S κ [] [] r w (.returned x) w':=
 ⟨x,S',κ,rfl,hb.os,hb.tape,⟨hb.output,λd=>d.elim⟩,hb.size,λg hg _=>hb.block g hg,h1,λg hg=>(h2 g hg).imp id (λq=>.inl q),h3,λ_ _=>rfl,λb g c _ hd=>by simp[Dm,Ab.look]at hd,λb b' g c c' hd=>by simp[Dm,Ab.look]at hd,λb ent hb=>by simp[Ab.look]at hb,hr⟩
def leftF{S:aD}{κ:Kap}{w w':World}{r:AV}{x:Value}(hb:Below w.heap.size w w')(hS:∀g,S g->g<w.heap.size)
  (hr:RRel S κ (Dm []) (Mine w κ (Dm [])) w' r x):Ab.Left S κ [] [] r w (.returned x) w':=
 leftP hb hS (λ_ h=>h) (λ_ h=>.inl h) (λg h=>zbO (hS g h) hb.size) hr
def one1{a:AV}{vals:aV}(h:vals.size=[a].length):∃v,vals=#[v]:=by
 rcases vals with⟨vs⟩
 match vs,h with
 |[v],_=>exact⟨v,rfl⟩
def two2{a b:AV}{vals:aV}(h:vals.size=[a,b].length):∃v u,vals=#[v,u]:=by
 rcases vals with⟨vs⟩
 match vs,h with
 |[v,u],_=>exact⟨v,u,rfl⟩
def itoa_ok:CallOK zP (single 38 zOrc):=by
 refine ora (o:=oItoa) (λargs=>by unfold zOrc;simp(decide:=true) only [if_false,if_true]) (by kernel_rfl) (λargs r ms' h=>?_);unfold oItoa at h;split at h
 case h_2=>cases h
 rename_i n;split at h
 case isFalse=>cases h
 rename_i hn;injection h with h;injection h with h1 h2;subst h1 h2;refine⟨rfl,λw S κ vals hvl hS hk hv=>?_⟩;obtain⟨v,rfl⟩:=one1 hvl;obtain rfl:=(hv 0 _ v rfl rfl).v_inv;refine(Any.strconv_Itoa layItoa n hn.1 hn.2 w hk.2.2.2).mono ?_
 rintro e w' ⟨rfl,k,os,rfl⟩
 exact leftF (Lib.below_grow _ w (zav _) k os) hS (.v _)
def pre_ok:CallOK zP (single 127 zOrc):=by
 refine ora (o:=oPre) (λargs=>by unfold zOrc;simp(decide:=true) only [if_false,if_true]) (by kernel_rfl) (λargs r ms' h=>?_);unfold oPre at h;split at h
 case h_2=>cases h
 rename_i s p;injection h with h;injection h with h1 h2;subst h1 h2;refine⟨rfl,λw S κ vals hvl hS hk hv=>?_⟩;obtain⟨v,u,rfl⟩:=two2 hvl;obtain rfl:=(hv 0 _ v rfl rfl).v_inv;obtain rfl:=(hv 1 _ u rfl rfl).v_inv;refine(Any.strings_CutPrefix layPre s p w).mono ?_
 rintro e w' ⟨rfl,rfl⟩
 refine leftF (Below.refl _ _) hS (.tup _ _ rfl λj c x hj hx=>?_)
 match j,hj,hx with
 |0,hj,hx=>injection hj with hj;injection hx with hx;subst hj;subst hx;exact .v _
 |1,hj,hx=>injection hj with hj;injection hx with hx;subst hj;subst hx;exact .v _
 |j+2,hj,hx=>simp at hj
def cut_ok:CallOK zP (single 47 zOrc):=by
 refine ora (o:=oCut) (λargs=>by unfold zOrc;simp(decide:=true) only [if_false,if_true]) (by kernel_rfl) (λargs r ms' h=>?_);unfold oCut at h;split at h
 case h_2=>cases h
 rename_i s p;split at h
 case isFalse=>cases h
 rename_i hs;injection h with h;injection h with h1 h2;subst h1 h2;refine⟨rfl,λw S κ vals hvl hS hk hv=>?_⟩;obtain⟨v,u,rfl⟩:=two2 hvl;obtain rfl:=(hv 0 _ v rfl rfl).v_inv;obtain rfl:=(hv 1 _ u rfl rfl).v_inv;obtain⟨m,hm⟩:=hk.2.1.2;refine(Any.strings_Cut layCut s p m w hs hm).mono ?_
 rintro e w' ⟨rfl,n,rfl⟩
 refine leftF ⟨rfl,rfl,rfl,zav _,λ_ _=>rfl⟩ hS (.tup _ _ rfl λj c x hj hx=>?_)
 match j,hj,hx with
 |0,hj,hx=>injection hj with hj;injection hx with hx;subst hj;subst hx;exact .v _
 |1,hj,hx=>injection hj with hj;injection hx with hx;subst hj;subst hx;exact .v _
 |2,hj,hx=>injection hj with hj;injection hx with hx;subst hj;subst hx;exact .v _
 |j+3,hj,hx=>simp at hj
def split_ok:CallOK zP (single 39 zOrc):=by
 refine ora (o:=oSplit) (λargs=>by unfold zOrc;simp(decide:=true) only [if_false,if_true]) (by kernel_rfl) (λargs r ms' h=>?_);unfold oSplit at h;split at h
 case h_2=>cases h
 rename_i s p;split at h
 case isFalse=>cases h
 rename_i hs;injection h with h;injection h with h1 h2;subst h1 h2;refine⟨rfl,λw S κ vals hvl hS hk hv=>?_⟩;obtain⟨v,u,rfl⟩:=two2 hvl;obtain rfl:=(hv 0 _ v rfl rfl).v_inv;obtain rfl:=(hv 1 _ u rfl rfl).v_inv;obtain⟨m,hm⟩:=hk.2.1.2;refine(Any.strings_Split { zDM with } zDM.i9 s p m w hs.1 hm hs.2).mono ?_
 rintro e w' ⟨rfl,rfl⟩
 have hl:(Lib.splitB p 0 (Lib.countB s p) s).length=Lib.countB s p+1:=Lib.splitB_all p hs.2 0 _ s rfl;generalize hws:Lib.splitB p 0 (Lib.countB s p) s=ws at hl ⊢
 have hg:(w.alloc (.cells (ws.map Value.string).toArray (zvu.t 9))).heap[w.heap.size]?=some (.cells (ws.map Value.string).toArray (zvu.t 9) (0,0)):=by show(w.heap.push _)[w.heap.size]?=_;rw[Array.getElem?_push,if_pos rfl]
 refine leftF ((Below.refl _ w).alloc (zav _) _) hS ⟨by decide,.inr ⟨w.heap.size,Lib.countB s p+1,.inl (zav _),by rw[zab,hl],EntAt.of (.inr Nat.one_pos) ⟨?_,_,hg,?_,?_,?_,λh=>by have:=hS _ h;omega,?_⟩⟩⟩
 .intro cs hcs;obtain⟨x,_,rfl⟩:=zbf.1 hcs;rfl
 .simp[hl]
 .simp[hl]
 .show Lib.countB s p+1<=maxLen;have:=Lib.countB_le p hs.2 _ s (zav _);unfold maxLen;omega
 . intro i j cs a hi hj;rw[zbv]at hi
   cases hx:ws[i]? with
   |none=>rw[hx]at hi;cases hi
   |some x =>
     rw[hx]at hi;injection hi with hi;subst hi
     match j,hj with
     |0,hj=>injection hj with hj;subst hj;exact⟨.string x,by simp[hx],rfl,λh=>by(cases h),λ_=>CRel.v _⟩
     |j+1,hj=>simp at hj
def strsOf_get:∀{es:aS} {ws:List ByteArray},strsOf es=some ws->es=ws.map λs=>[.v (.string s)]:=by
 intro es
 fun_induction strsOf es with
 |case1=>intro ws h;injection h with h;subst h;rfl
 |case2 s r ih=>intro ws h;obtain⟨wr,h1,rfl⟩:=zdH.1 h;rw[ih h1];rfl
 |case3=>intro ws h;cases h
def bx:Builder.Extra zP zCH where
 sizeBuilder:=by kernel_rfl
 liesBuilder:=by kernel_rfl
 t5:=Tryz.underlying5
 a5:=Tryz.isAgg5
 z5:=Tryz.sizeOf5
 v5:=Tryz.zeroValue5
 infoByte:=by kernel_rfl
 cellsByte:=by kernel_rfl
 sizeByte:=by kernel_rfl
 neB5:=by decide
def join_ok:CallOK zP (single 46 zOrc):=by
 refine ora (o:=oJoin) (λargs=>by unfold zOrc;simp(decide:=true) only [if_false,if_true]) (by kernel_rfl) (λargs r ms' h=>?_);unfold oJoin at h;split at h
 case h_2=>cases h
 rename_i es p;split at h
 case h_2=>cases h
 rename_i ws hws;split at h
 case isFalse=>cases h
 rename_i hs;injection h with h;injection h with h1 h2;subst h1 h2;refine⟨rfl,λw S κ vals hvl hS hk hv=>?_⟩;obtain⟨v,u,rfl⟩:=two2 hvl;obtain rfl:=(hv 1 _ u rfl rfl).v_inv;have hv0:=(hv 0 _ v rfl rfl).sl_inv;have he:=strsOf_get hws;subst he
 cases hv0 with
 |sl _ _ A len cap q hlen hcap hz ha hr =>
   rw[zab]at hlen;subst hlen
   have hemp:ws=[]->Calls zP 46 #[.slice A ws.length cap,.string p] w (Ab.Left S κ [] [] (.v (.string (tx (Lib.join (ws.map (·.data.toList)) p.data.toList)))) w):=λh0=>by
    subst h0;refine(Any.strings_Join_none layJoin bx A cap p w).mono ?_
    rintro e w' ⟨rfl,rfl⟩
    exact leftF (Below.refl _ _) hS (.v _)
   rcases ha with h0|⟨a,rfl,hSa,hc⟩
   .exact hemp (by simpa using h0)
   . by_cases hne:ws=[]
     .exact hemp hne
     have hcell:∀(j:Nat) (x:ByteArray),ws[j]?=some x->w.cell? (a.add j)=some (.string x):=λj x hx=>by
      have hj:(ws.map λs=>([.v (.string s)]:List AV))[j]?=some [.v (.string x)]:=by rw[zbv,hx];rfl
      have h1:=(hc j 0 _ _ hj rfl).1;have h2:q j 0=.string x:=(VRel.c (κ:=κ) (D:=Dm []) (hr j 0 _ _ hj rfl)).v_inv;rw[h2]at h1;simpa using h1
     obtain⟨bk,o,sp⟩:=a
     have hsp:sp=none:=by
      obtain⟨x,hx⟩:∃x,ws[0]?=some x:=⟨_,zaa (by cases ws with|nil=>exact absurd rfl hne|cons _ _=>simp)⟩
      have:=hcell 0 x hx;unfold Addr.add at this;rw[if_pos rfl]at this;unfold World.cell? at this
      cases sp with
      |none=>rfl
      |some q=>split at this<;>simp at this
     subst hsp;refine(Any.strings_Join layJoin bx bk o cap ws p w (λj x hx=>?_) (hS _ hSa) (by omega) hcap hs.2).mono ?_
     .rw[<-hcell j x hx,add_at]
     . rintro e w' ⟨rfl,hb⟩
       exact leftF hb hS (.v _)
end
open Go.Ab Go.Str
def lt12'{w:Nat}(h:w<12):w=0\/w=1\/w=2\/w=3\/w=4\/w=5\/w=6\/w=7\/w=8\/w=9\/w=10\/w=11:=by omega
def c_Itoa{n:Int}(h:W64 n):cw 38 [I n] []=some (zfz (tx (Lib.itoa n))):=
 zqS itoa_ok (by
  show oItoa [I n]=_;unfold oItoa;dsimp only;rw[if_pos (show _/\_ from h)]
  rfl)
def tx_lists(ws:List ByteArray):(ws.map (·.data.toList)).map tx=ws:=by simp only[zfX];exact(zc2 λx _=>tx_of x).trans (List.map_id' ws)
def c_Split{l:List UInt8}{c:UInt8}(h:l.length<4294967281):cw 39 [.v (.string (tx l)),.v (.string (tx [c]))] []=some (zrH ((splitC c l).map tx)):=by
 have e:Lib.splitB (tx [c]) 0 (Lib.countB (tx l) (tx [c])) (tx l)=(splitC c l).map tx:=by
  have h1:=Lib.splitB_data (tx [c]) 0 (Lib.countB (tx l) (tx [c])) (tx l);rw[zhV,zhV]at h1
  have h2:Lib.splitK [c] 0 (Lib.countB (tx l) (tx [c])) l=splitC c l:=by rw[<-split_eq c _ l (zav _)];unfold Lib.split Lib.countB;rw[zhV,zhV]
  rw[h2]at h1;rw[<-h1,tx_lists]
 refine zqS split_ok ?_;show oSplit [.v (.string (tx l)),.v (.string (tx [c]))]=_;unfold oSplit;dsimp only;rw[if_pos ⟨by rw[zdI];exact h,by rw[zdI];simp⟩,e];rfl
def c_Cut{l:List UInt8}{c:UInt8}(h:l.length<4294967281):cw 47 [.v (.string (tx l)),.v (.string (tx [c]))] []=some (ztZ (tx (Lib.cut l [c]).1,tx (Lib.cut l [c]).2.1,(Lib.cut l [c]).2.2)):=by refine zqS cut_ok ?_;show oCut [.v (.string (tx l)),.v (.string (tx [c]))]=_;unfold oCut;dsimp only;rw[if_pos (by rw[zdI];exact h),zhV,zhV];rfl
def c_Pre(l p:List UInt8):cw 127 [.v (.string (tx l)),.v (.string (tx p))] []=some (ze9 (tx (Lib.trimPrefix l p),Lib.hasPrefix l p)):=by refine zqS pre_ok ?_;show oPre [.v (.string (tx l)),.v (.string (tx p))]=_;unfold oPre;dsimp only;rw[zhV,zhV];rfl
def zFm:∀ws:List (List UInt8),strsOf (List.map nStr (ws.map tx))=some (ws.map tx)
 |[]=>rfl
 |w::r=>by show(strsOf (List.map nStr (r.map tx))).map _=_;rw[zFm r];rfl
def c_Join{ws:List (List UInt8)}{p:List UInt8}(h1:ws.length<=1000000000)(h2:(Lib.join ws p).length<=140737488355328):cw 46 [.sl 1 (List.map nStr (ws.map tx)),.v (.string (tx p))] []=some (zfz (tx (Lib.join ws p))):=by
 have e:((ws.map tx).map (·.data.toList))=ws:=by simp only[zfX];exact(zc2 λx _=>zhV x).trans (List.map_id' ws)
 refine zqS join_ok ?_;show oJoin [.sl 1 (List.map nStr (ws.map tx)),.v (.string (tx p))]=_;unfold oJoin;simp only[zFm];rw[e,zhV,if_pos ⟨by simpa using h1,h2⟩];rfl
def c_fits(n:Int):cw 76 [I n] []=some (zao (decide (fits n))):=by
 refine zFU ?_;rw[zfZ]
 have:decide (fits n)=(decide (-999999999999999999<=n)&&decide (n<=999999999999999999)):=by rw[<-Bool.decide_and];exact decide_eq_decide.2 (by unfold fits;omega)
 rw[this];split<;>rename_i h
 .rw[h];rfl
 .rw[Bool.not_eq_true]at h;rw[h];rfl
def zBt(a b:aQ)(ha:a.length<1000000000):cw 77 [.sl 1 (List.map zaj a),.sl 1 (List.map zaj b)] []=some (zao (decide (a=b))):=by
 refine zxd ?_;rw[zfZ];simp only[zab,bne_iff_ne,ne_eq];split
 .rename_i h;rw[decide_eq_false (λe=>h (by rw[e]))];rfl
 . rename_i h;have hl:a.length=b.length:=by omega
   refine zoH a (λi r=>zhD a b (i:Nat)=some (zao (decide (r=b.drop i)))) ?_ ?_|>.trans (by rw[zfq])
   .refine zoP ?_;rw[zaC (by simp)];rw[hl,List.drop_length];rfl
   . intro i x r hi hx hr ih;refine zoP ?_;have hib:i<b.length:=by omega
     rw[zaz (by simp;omega),cPQ,zcc,show((i:Nat):Int).toNat=i from rfl,zaa hi,zad,cPQ,zcc,zaa hib,zad,zfZ,hx];by_cases he:x=b[i]
     . have e2:decide (x::r=b.drop i)=decide (r=b.drop (i+1)):=by rw[zbE hib];exact decide_eq_decide.2 (by rw[zap];exact⟨λh=>h.2,λh=>⟨he,h⟩⟩)
       rw[if_neg (by simp[he]),w6Q,show((i:Nat):Int)+1=((i+1:Nat):Int)by omega,ih,e2]
     .rw[if_pos (by simpa using he),decide_eq_false (λq=>by rw[zbE hib,zap]at q;exact he q.1)];rfl
def brn_and(b c:Bool):brn b (some (B c,([]:Mem))) bG=some (B (b&&c),[]):=by cases b<;>rfl
def c_same(a b:GOp)(h1:a.W.length<1000000000)(h2:a.g.r.length<1000000000)(h3:a.g.I.length<1000000000)(h4:a.J.r.length<1000000000):cw 45 [.agg (nGOp a),.agg (nGOp b)] []=some (zao (decide (a=b))):=by
 refine zFV ?_;rw[zBt _ _ h1,zBt _ _ h2,zBt _ _ h3,zBt _ _ h4];simp only[zaG,brn_and];obtain⟨k,⟨e1,e2,e3⟩,⟨s1,s2,s3,s4,s5,s6,s7⟩,⟨⟨v1,v2,v3⟩,v4,v5,v6,v7,v8,v9⟩,⟨p1,p2⟩,⟨⟨a1,a2,a3⟩,a4,a5,a6⟩,bs,t,n⟩:=a;obtain⟨k',⟨e1',e2',e3'⟩,⟨s1',s2',s3',s4',s5',s6',s7'⟩,⟨⟨v1',v2',v3'⟩,v4',v5',v6',v7',v8',v9'⟩,⟨p1',p2'⟩,⟨⟨a1',a2',a3'⟩,a4',a5',a6'⟩,bs',t',n'⟩:=b;refine congrArg (λb=>some (B b,([]:Mem))) ?_;rw[zek];simp only[zO,beq_iff_eq,and_true,GOp.mk.injEq,zcL.mk.injEq,zaK.mk.injEq,zak.mk.injEq,zb8.mk.injEq,zmu.mk.injEq,zbu.mk.injEq]
 grind
def zAu(l:List (Option Addr))(hl:l.length<1000000):cw 71 [.sl 1 (List.map nPtr l)] []=some (zgy (l.map λp=>(⟨p,none⟩:zck))):=by
 refine zB4 ?_;refine zoH l (λi r=>∀x:List zck,x.length<=i->zkk l (mF x) (i:Nat)=some (zgy (x++r.map λp=>(⟨p,none⟩:zck)))) ?_ ?_ [] (zav _)
 .intro x hx;refine zr7 ?_;rw[zaC (by simp),zam rfl];simp only[zeN,zf0];rfl
 .intro i p r hi hp hr ih x hx;refine zr7 ?_;rw[zaz (by simp;omega),cPQ,elemD_Ptr,show((i:Nat):Int).toNat=i from rfl,zaa hi,zad,zam rfl,zam (by simp;omega),zam rfl,w6Q,hp];have:=ih (x++[⟨p,none⟩]) (by simp;omega);simp only[zct]at this;rw[show((i:Nat):Int)+1=((i+1:Nat):Int)by omega];refine this.trans ?_;simp
def c_stampOf(g n:Nat)(l:List (Option Addr))(hl:l.length<1000):cw 72 [.v (.pointer (some ⟨g,n,none⟩)),.sl 1 (List.map nPtr l)] [] =
  some (zgy ((some ⟨g,n+0,none⟩::some ⟨g,n+1,none⟩::some ⟨g,n+2,none⟩::l:List (Option Addr)).map λp=>(⟨p,none⟩:zck))):=by
 refine zB6 ?_;rw[zAu _ (by simp),zeP,zAu l (by omega),zeP,zam (by simp),zam rfl,zam (by simp;omega),zam rfl,zam rfl,zbn,<-zct,<-zct];rfl
def slotsS(w g:Nat):List zck:=(slotsC w).map λp=>if p.1 then⟨none,some ⟨g,p.2,none⟩⟩else⟨some ⟨g,p.2,none⟩,none⟩
def n0:((0:Nat):Int)=0:=rfl
def n1:((1:Nat):Int)=1:=rfl
def n2:((2:Nat):Int)=2:=rfl
def n3:((3:Nat):Int)=3:=rfl
def n4:((4:Nat):Int)=4:=rfl
def n5:((5:Nat):Int)=5:=rfl
def n6:((6:Nat):Int)=6:=rfl
def n7:((7:Nat):Int)=7:=rfl
def n8:((8:Nat):Int)=8:=rfl
def n9:((9:Nat):Int)=9:=rfl
def n10:((10:Nat):Int)=10:=rfl
def n11:((11:Nat):Int)=11:=rfl
def zAA{w:Nat}(g:Nat)(hw:w<12):cw 41 [I w,.v (.pointer (some ⟨g,0,none⟩))] []=some (zgy (slotsS w g)):=by
 have hn:∀l:List (Option Addr),l.length<1000000->cw 71 [.sl 1 (List.map nPtr l)] []=some (zgy (l.map λp=>(⟨p,none⟩:zck))):=zAu;have hs:∀(g n:Nat) (l:List (Option Addr)),l.length<1000->cw 72 [.v (.pointer (some ⟨g,n,none⟩)),.sl 1 (List.map nPtr l)] []=_:=c_stampOf;rcases lt12' hw with rfl|rfl|rfl|rfl|rfl|rfl|rfl|rfl|rfl|rfl|rfl|rfl
 all_goals
  refine zB5 ?_;simp only[n0,n1,n2,n3,n4,n5,n6,n7,n8,n9,n10,n11,Int.reduceBEq,zaM,zaB,hn,hs,zaJ,zba,Nat.reduceAdd,Nat.reduceLT,zeP,zeP]
  first
   |(repeat rw[zam (by first|trivial|rfl|(simp;done)|omega)]
     rfl)
   |(refine zxq ?_
     simp only[hn,zaJ,zba,Nat.reduceAdd,Nat.reduceLT,zeP]
     repeat rw[zam (by first|trivial|rfl|(simp;done)|omega)]
     rfl)
def c_blank{w:Nat}(hw:w<12):cw 40 [I w] []=some (zrC (blankS w)):=by refine zEI ?_;rcases lt12' hw with rfl|rfl|rfl|rfl|rfl|rfl|rfl|rfl|rfl|rfl|rfl|rfl<;>rfl
def zK1{w:Nat}(hw:w<12)(o:GOp):isForm o w=(o.k==(blankS w).k&&((o.k !=2)==true||(o.J.k==(blankS w).J.k))&&((o.k !=4)==true||o.M.k==(blankS w).M.k)):=by
 unfold isForm;rw[zek];simp
 grind
def c_formOf(o:GOp):cw 43 [.agg (nGOp o)] []=some (za9 (zfF o)):=by
 refine zDw ?_
 have key:∀(k i:Nat),i+k=12->zf5 o (i:Nat)=some (za9 ((((List.range' i k).find? (isForm o)).getD 12:Nat):Int)):=by
  intro k
  induction k with
  |zero=>intro i hi;refine ztf ?_;rw[zaC (by omega)];rfl
  |succ k ih =>
    intro i hi;refine ztf ?_;have h12:i<12:=by omega
    rw[zaz (by omega),c_blank h12,znx,w6Q,show((i:Nat):Int)+1=((i+1:Nat):Int)by omega,ih (i+1) (by omega),ziI,List.find?_cons];simp only[zfZ];have hk:=zK1 h12 o
    cases hf:isForm o i with
    |true =>
      rw[hf]at hk;simp only[zci];simp at hk
      repeat' split
      all_goals first|rfl|(exfalso;simp_all;done)|(exfalso;grind)
    |false =>
      rw[hf]at hk;simp only[Nat.add_one]
      repeat' split
      all_goals first|rfl|(exfalso;simp_all;done)|(exfalso;grind)
 have:=key 12 0 rfl
 rwa[<-List.range_eq_range']at this
def u8_id{n:Int}(h1:0<=n)(h2:n<256):IntKind.wrap .u8 n=n:=by simp only[zK,IntKind.wrap,IntKind.bits,IntKind.signed,show((2:Int) ^ 8)=256 from rfl,zeW];omega
def zyE{k:Nat}(c:UInt8):∀(ws:List (List UInt8)),(∀w∈ws,w.length<=k)->(Lib.join ws [c]).length<=(k+1)*ws.length
 |[],_=>by simp[Lib.join_nil]
 |[w],h=>by rw[Lib.join_one];have:=h w (by simp);simp;omega
 |w::v::r,h=>by
   have e:Lib.join (w::v::r) [c]=w++c::Lib.join (v::r) [c]:=by simp[Lib.join,List.intercalate,List.intersperse]
   have ih:=zyE c (v::r) (λx hx=>h x (by simp[hx]));have:=h w (by simp);rw[e];simp only[zaW,zaJ]at ih ⊢;rw[Nat.mul_add,Nat.mul_add]at *;omega
def zqx{n:Int}(h:W64 n):(Lib.itoa n).length<=20:=by
 unfold Lib.itoa;obtain⟨h1,h2⟩:=h;split
 .rw[zaJ,zyz];have:=zyG (u:=n.natAbs) (k:=19) (by show _<10000000000000000000;omega) (by omega);omega
 .rw[zyz];have:=zyG (u:=n.toNat) (k:=19) (by show _<10000000000000000000;omega) (by omega);omega
def c_listText(l:aQ)(hl:l.length<=1000)(hw:∀n∈l,W64 n):∃s,cw 75 [.sl 1 (List.map zaj l)] []=some (ze9 (s,decide (l.length<=300/\∀n∈l,fits n)))/\((l.length<=300/\∀n∈l,fits n)->s=tx (wordL l)):=by
 by_cases h0:l=[]
 .subst h0;exact⟨_,zkQ rfl,λ_=>rfl⟩
 by_cases h3:300<l.length
 . refine⟨tx [],zkQ ?_,λh=>by omega⟩;have hb:(((List.map zaj l).length:Int)==0)=false:=by rw[beq_eq_false_iff_ne,zab];omega
   rw[hb,zaB,zaz (by rw[zab];omega),decide_eq_false (by omega)];rfl
 . have key:∀ws:List (List UInt8),ws.length<=0->(∀w∈ws,w.length<=20)->zhy l (List.map nStr (ws.map tx)) (0:Nat)=some (ze9 (if∀n∈l,fits n then(tx (Lib.join (ws++l.map Lib.itoa) [44]),true)else(tx [],false))):=by
    refine zoH l (λi r=>∀ws:List (List UInt8),ws.length<=i->(∀w∈ws,w.length<=20)->zhy l (List.map nStr (ws.map tx)) (i:Nat)=some (ze9 (if∀n∈r,fits n then(tx (Lib.join (ws++r.map Lib.itoa) [44]),true)else(tx [],false)))) ?_ ?_
    .intro ws h1 h2;refine zrL ?_;have hj:=zyE 44 ws h2;rw[zaC (by rw[zab];omega),cPQ,zbn,show(zqF:ByteArray)=tx [44]from rfl,c_Join (by omega) (by omega),zcC];simp;rfl
    . intro i x r hi hx hr ih ws h1 h2;have hxw:W64 x:=hw x (by rw[<-hx];exact zaq hi);refine zrL ?_;rw[zaz (by rw[zab];omega),cPQ,zcc,show((i:Nat):Int).toNat=i from rfl,zaa hi,zad,hx,c_fits,zaG];by_cases hf:fits x
      . rw[decide_eq_true hf,zaS,zaB,c_Itoa hxw,zcC,zam rfl,zam (by simp;omega),zam rfl,w6Q,show((i:Nat):Int)+1=((i+1:Nat):Int)by omega];have e:List.map nStr (ws.map tx)++[nStr (tx (Lib.itoa x))]=List.map nStr ((ws++[Lib.itoa x]).map tx):=by simp
        rw[e,ih (ws++[Lib.itoa x]) (by simp;omega) (λw hm=>by
         rcases zaX.1 hm with hm|hm
         .exact h2 w hm
         .rw[zbs.1 hm];exact zqx hxw)]
        simp[hf]
      .rw[decide_eq_false hf,zbe,zaM,if_neg (λq=>hf (q x (by simp)))];rfl
   have hk:=key [] (zav _) (by simp)
   have hb:(((List.map zaj l).length:Int)==0)=false:=by
    rw[beq_eq_false_iff_ne,zab];have:l.length≠0:=λe=>h0 (zcr e)
    omega
   by_cases hf:∀n∈l,fits n
   .rw[if_pos hf]at hk;refine⟨tx (wordL l),zkQ ?_,λ_=>rfl⟩;rw[hb,zaB,zaC (by rw[zab];omega),decide_eq_true (by exact⟨by omega,hf⟩)];refine hk.trans ?_;unfold wordL;rw[if_neg h0];rfl
   .rw[if_neg hf]at hk;refine⟨tx [],zkQ ?_,λq=>absurd q.2 hf⟩;rw[hb,zaB,zaC (by rw[zab];omega),decide_eq_false (λq=>hf q.2)];exact hk
def c_textN{n:Int}(h:W64 n):cw 44 [.agg [.fp [I n],.v (.pointer none)]] []=some (ze9 (tx (Lib.itoa n),decide (fits n))):=by refine zzO ?_;rw[c_Itoa h,zcC,c_fits,zaG];rfl
def c_textL(l:aQ)(hl:l.length<=1000)(hw:∀n∈l,W64 n):∃s,cw 44 [.agg [.v (.pointer none),.fp [.sl 1 (List.map zaj l)]]] []=some (ze9 (s,decide (l.length<=300/\∀n∈l,fits n)))/\((l.length<=300/\∀n∈l,fits n)->s=tx (wordL l)):=by obtain⟨s,h1,h2⟩:=c_listText l hl hw;refine⟨s,zxP ?_,h2⟩;rw[h1,zh9];rfl
def zDY{l:List UInt8}{i:Nat}(h:i<l.length):strAt (tx l) (i:Nat)=(l[i].toNat:Int):=by
 unfold strAt
 have:(tx l)[i]?=some l[i]:=by show(tx l).data[i]?=_;simp[tx,h]
 rw[show((i:Nat):Int).toNat=i from rfl,this];rfl
def c_numLoop(ds:List UInt8)(neg:Bool)(hl:ds.length<=18):zes (tx ds,neg) 0 0=some (zez (if ds.all isDig=true then(if neg then -(val 0 ds:Int)else val 0 ds,true)else(0,false))):=by
 have key:∀v:Nat,v<10 ^ 0->zes (tx ds,neg) (v:Nat) (0:Nat)=some (zez (if ds.all isDig=true then(if neg then -(val v ds:Int)else val v ds,true)else(0,false))):=by
  refine zoH ds (λi r=>∀v:Nat,v<10 ^ i->zes (tx ds,neg) (v:Nat) (i:Nat)=some (zez (if r.all isDig=true then(if neg then -(val v r:Int)else val v r,true)else(0,false)))) ?_ ?_
  . intro v hv;have hv2:v<1000000000000000000:=zbO hv (za5 (zdX (by omega) hl) (by decide));refine zrM ?_;rw[zaC (by rw[zdI];omega)]
    cases neg with
    |true=>rw[zaM,w6Q];simp[val];rfl
    |false=>rw[zaB];simp[val];rfl
  . intro i d r hi hd hr ih v hv;have hv2:v<100000000000000000:=zbO hv (za5 (zdX (by omega) (show i<=17 by omega)) (by decide));refine zrM ?_;have hsz:((i:Nat):Int)<((tx ds).size:Int):=by rw[zdI];omega
    have hst:=zDY hi;rw[hd]at hst;rw[zaz hsz,cPQ,zam hsz,hst];by_cases h1:d.toNat<48
    .rw[zaz (by omega),if_neg (by simp[isDig];omega)];rfl
    . rw[zaC (by omega),cPQ,zam hsz];by_cases h2:57<d.toNat
      .rw[zaz (by omega),if_neg (by simp[isDig];omega)];rfl
      . rw[zaC (by omega),cPQ,zam hsz,u8_id (by omega) (by omega),w6Q (n:=(v:Int)*10),w6Q (n:=(d.toNat:Int)-48),w6Q,w6Q (n:=(i:Int)+1)];have:=ih (10*v+(d.toNat-48)) (by rw[zi4];omega);rw[show((v:Nat):Int)*10+((d.toNat:Int)-48)=((10*v+(d.toNat-48):Nat):Int)by omega,show((i:Nat):Int)+1=((i+1:Nat):Int)by omega,this];have hdg:isDig d=true:=by simp[isDig];omega
        simp only[ziA,hdg,zdK];rfl
 exact key 0 (by decide)
def numR(l:List UInt8):Int×Bool:=match numS l with
 |some n=>(n,true)
 |none=>(0,false)
def c_numW(ds:List UInt8)(neg:Bool){y:AV×Mem}(hy:some y=some (zez (match numW neg ds with|some n=>(n,true)|none=>(0,false)))):(brn (decide (((tx ds).size:Int)<1)) (some (AV.tup [I 0,B false],[])) (brn (decide (18<((tx ds).size:Int))) (some (AV.tup [I 0,B false],[]))
  (chk ((0:Int)<=0)<|chk ((0:Int)<((tx ds).size:Int))<|
   brn (strAt (tx ds) 0==48) (brn neg (some (AV.tup [I 0,B false],[])) (brn (decide (1<((tx ds).size:Int))) (some (AV.tup [I 0,B false],[])) (zes (tx ds,neg) 0 0))) (zes (tx ds,neg) 0 0))))=some y:=by
 rw[hy,zdI];unfold numW;by_cases h1:ds.length<1
 .rw[zaz (by omega),if_pos (.inl h1)];rfl
 by_cases h2:18<ds.length
 .rw[zaC (by omega),zaz (by omega),if_pos (.inr (.inl h2))];rfl
 rw[zaC (by omega),zaC (by omega),cPQ,cPQ];have h0:0<ds.length:=by omega
 have hst:strAt (tx ds) 0=(ds[0].toNat:Int):=zDY h0;have hhd:ds.head?=some ds[0]:=by cases ds with|nil=>simp at h0|cons _ _=>rfl
 rw[hst,c_numLoop ds neg (by omega),hhd];have h48:ds[0]=48↔ds[0].toNat=48:=⟨λe=>by rw[e];rfl,λe=>UInt8.toNat_inj.1 (e.trans rfl)⟩
 by_cases hz:ds[0]=48
 . have hzn:=h48.1 hz;rw[hzn,show(((48:Nat):Int)==48)=true from rfl,zaM]
   cases neg with
   |true=>rw[zaM,if_pos (.inr (.inr (.inl ⟨congrArg some hz,.inl rfl⟩)))];rfl
   |false =>
     rw[zaB];by_cases h3:1<ds.length
     .rw[zaz (by omega),if_pos (.inr (.inr (.inl ⟨congrArg some hz,.inr h3⟩)))];rfl
     . rw[zaC (by omega)]
       cases hall:ds.all isDig with
       |true =>
         have hc:¬(ds.length<1\/18<ds.length\/(some ds[0]=some 48/\(false=true\/1<ds.length))\/true=false):=by
          rintro(q|q|⟨_,q|q⟩|q)
          .omega
          .omega
          .cases q
          .omega
          .cases q
         rw[if_pos rfl,if_neg hc]
       |false=>rw[iNs,if_pos (.inr (.inr (.inr rfl)))]
 . have hzn:¬ds[0].toNat=48:=λe=>hz (h48.2 e)
   rw[show(((ds[0].toNat:Nat):Int)==48)=false from by rw[beq_eq_false_iff_ne];omega,zaB]
   cases hall:ds.all isDig with
   |true =>
     have hc:¬(ds.length<1\/18<ds.length\/(some ds[0]=some 48/\(neg=true\/1<ds.length))\/true=false):=by
      rintro(q|q|⟨q,_⟩|q)
      .omega
      .omega
      .exact hz (zbb q)
      .cases q
     rw[if_pos rfl,if_neg hc]
   |false=>rw[iNs,if_pos (.inr (.inr (.inr rfl)))]
def zEx(l:List UInt8):cw 74 [.v (.string (tx l))] []=some (zez (numR l)):=by
 refine zAG ?_;rw[show(zqG:ByteArray)=tx [45]from rfl,c_Pre,zh9]
 cases l with
 |nil=>exact c_numW [] false rfl
 |cons d r =>
   by_cases hd:d=45
   . subst hd;have e1:Lib.trimPrefix (45::r) [45]=r:=by simp[Lib.trimPrefix,Lib.hasPrefix,List.isPrefixOf]
     have e2:Lib.hasPrefix (45::r) [45]=true:=by simp[Lib.hasPrefix,List.isPrefixOf]
     rw[e1,e2];exact c_numW r true (by simp[numR,numS])
   . have e2:Lib.hasPrefix (d::r) [45]=false:=by
      have h45:¬(45:UInt8)=d:=λe=>hd e.symm
      simp[Lib.hasPrefix,List.isPrefixOf,h45]
     have e1:Lib.trimPrefix (d::r) [45]=d::r:=by simp[Lib.trimPrefix,e2]
     rw[e1,e2];exact c_numW (d::r) false (by simp[numR,numS,hd])
def listR(l:List UInt8):List Int×Bool:=match readL l with
 |some n=>(n,true)
 |none=>([],false)
def tx_beq(a b:List UInt8):(tx a==tx b)=decide (a=b):=by
 show(a.toArray==b.toArray)=_;by_cases h:a=b
 .subst h;simp
 .simp[h]
def zyT(c:UInt8):∀l:List UInt8,(splitC c l).length<=l.length+1
 |[]=>by simp[splitC]
 |b::r=>by
   have ih:=zyT c r;have hne:=zwt c r;unfold splitC;split
   .simp;omega
   . cases h:splitC c r with
     |nil=>exact absurd h hne
     |cons a t=>rw[h]at ih;simp at ih ⊢;omega
def zGM:∀(ws:List (List UInt8)) (n:aQ),numsS ws=some n->n.length=ws.length
 |[],n,h=>by injection h with h;subst h;rfl
 |w::r,n,h=>by
   unfold numsS at h
   cases h1:numS w with
   |none=>rw[h1]at h;cases h
   |some a =>
     cases h2:numsS r with
     |none=>rw[h1,h2]at h;cases h
     |some t=>rw[h1,h2]at h;injection h with h;subst h;rw[zaJ,zaJ,zGM r t h2]
def c_listOf(l:List UInt8)(hl:l.length<4294967281):cw 73 [.v (.string (tx l))] []=some (zg4 (listR l)):=by
 refine zDy ?_;unfold listR readL;by_cases h0:l=[45]
 .subst h0;rw[if_pos rfl,show(znw:ByteArray)=tx [45]from rfl,tx_beq,decide_eq_true rfl,zaM];rfl
 rw[show(znw:ByteArray)=tx [45]from rfl,tx_beq,decide_eq_false h0,zaB,if_neg h0,show(zr0:ByteArray)=tx [44]from rfl,c_Split hl,zr1];have hsz:(splitC 44 l).length<=l.length+1:=zyT 44 l;generalize splitC 44 l=ws at hsz
 have key:∀acc:List Int,acc.length=0->0<=300->ziT (ws.map tx) (List.map zaj acc) (0:Nat)=some (zg4 (match numsS ws with|some n=>if 0+n.length<=300 then(acc++n,true)else([],false)|none=>([],false))):=by
  refine zoH ws (λi r=>∀acc:List Int,acc.length=i->i<=300->ziT (ws.map tx) (List.map zaj acc) (i:Nat)=some (zg4 (match numsS r with|some n=>if i+n.length<=300 then(acc++n,true)else([],false)|none=>([],false)))) ?_ ?_
  .intro acc ha hi;refine zth ?_;rw[zaC (by rw[zab,zab];omega),cPQ,zbn];simp only[numsS,zba,zf0];rw[iPQ];rfl
  . intro i x r hi hx hr ih acc ha hi3;refine zth ?_;have hxi:(ws.map tx)[i]?=some (tx x):=by rw[zbv,zaa hi,hx];rfl
    rw[zaz (by rw[zab,zab];omega),cPQ,zam (by rw[zab,zab];omega),zwi,show 0+((i:Nat):Int).toNat=i by omega,hxi,zad,zEx,zdf];unfold numR
    cases hn:numS x with
    |none=>simp only[numsS,hn];rw[zbe,zaM];rfl
    |some n =>
      simp only;rw[zaS,zaB];by_cases h3:i=300
      . rw[show(((List.map zaj acc).length:Int)==300)=true from by rw[beq_iff_eq,zab];omega,zaM];simp only[numsS,hn]
        cases numsS r with
        |none=>rfl
        |some t=>simp only;rw[if_neg (by simp;omega)];rfl
      . rw[show(((List.map zaj acc).length:Int)==300)=false from by rw[beq_eq_false_iff_ne,zab];omega,zaB,zam trivial,zam (by rw[zab];omega),zam trivial,w6Q,show((i:Nat):Int)+1=((i+1:Nat):Int)by omega];have e:List.map zaj acc++[zaj n]=List.map zaj (acc++[n]):=by simp
        rw[e,ih (acc++[n]) (by simp;omega) (by omega)];simp only[numsS,hn]
        cases numsS r with
        |none=>rfl
        |some t =>
          simp only[zaJ,zcA,zeY];by_cases hq:i+1+t.length<=300
          .rw[if_pos hq,iPQ]
          .rw[if_neg hq,iNQ]
 have hk:=key [] rfl (by decide);refine hk.trans ?_;have hnl:∀n,numsS ws=some n->n.length=ws.length:=λn=>zGM ws n
 cases hn:numsS ws with
 |none =>
   simp only;by_cases hq:ws.length<=300
   .rw[if_pos hq]
   .rw[if_neg hq]
 |some n =>
   have:=hnl n hn;simp only[zhq];by_cases hq:ws.length<=300
   .rw[if_pos hq,iPQ]
   .rw[if_neg hq,iNQ]
def read_n{off:Nat}(h:off∈[1,2,3,4,5,6,7,8,11,12,13,15,16,17,18,20,21,22,23,24,26,27,29,30])(x:GOp)(l:List UInt8):cw 42 [.agg [.loc 1000 31 0 off,.v (.pointer none)],.v (.string (tx l))] [(1000,pT x)]=some (zic ((numR l).2,putN (numR l).1 off x)):=by
 have hc:=zEx l;generalize tx l=w at hc
 have key:∀{y:AV×Mem},(callD zc3 (cw 74 [AV.v (.string w)] []) λ(r0:Int×Bool)=>some (B r0.2,[(1000,pT (putN r0.1 off x))]))=some y->cw 42 [.agg [.loc 1000 31 0 off,.v (.pointer none)],.v (.string w)] [(1000,pT x)]=some y:=by
  clear hc;simp only[zH,zcF]at h;rcases h with rfl|rfl|rfl|rfl|rfl|rfl|rfl|rfl|rfl|rfl|rfl|rfl|rfl|rfl|rfl|rfl|rfl|rfl|rfl|rfl|rfl|rfl|rfl|rfl
  all_goals
   intro y h;exact zyy zrX zT [] rfl (by kernel_rfl) (by kernel_rfl) (by kernel_rfl) (by kernel_rfl) (by kernel_rfl) h
 refine key ?_;rw[hc,zdf];rfl
def read_l{off:Nat}(h:off∈[9,10,19,28])(x:GOp)(l:List UInt8)(hl:l.length<4294967281):cw 42 [.agg [.v (.pointer none),.loc 1000 31 0 off],.v (.string (tx l))] [(1000,pT x)]=some (zic ((listR l).2,putL (listR l).1 off x)):=by
 have hc:=c_listOf l hl;generalize tx l=w at hc
 have key:∀{y:AV×Mem},(callD zeI (cw 73 [AV.v (.string w)] []) λ(r0:(List Int)×Bool)=>some (B r0.2,[(1000,pT (putL r0.1 off x))]))=some y->cw 42 [.agg [.v (.pointer none),.loc 1000 31 0 off],.v (.string w)] [(1000,pT x)]=some y:=by
  clear hc;simp only[zH,zcF]at h;rcases h with rfl|rfl|rfl|rfl
  all_goals
   intro y h;exact zyy zrX zT [] rfl (by kernel_rfl) (by kernel_rfl) (by kernel_rfl) (by kernel_rfl) (by kernel_rfl) h
 refine key ?_;rw[hc,zfx];rfl
def slots_n{W i off:Nat}(h:(slotsC W)[i]?=some (false,off)):off∈[1,2,3,4,5,6,7,8,11,12,13,15,16,17,18,20,21,22,23,24,26,27,29,30]:=by
 have hW:W<12:=by
  rcases zcs W 12 with q|q
  .exact q
  .rw[show slotsC W=[]from by unfold slotsC;split<;>first|omega|rfl]at h;simp at h
 have key:∀W<12,∀p∈slotsC W,p.1=false->p.2∈[1,2,3,4,5,6,7,8,11,12,13,15,16,17,18,20,21,22,23,24,26,27,29,30]:=by decide
 exact key W hW _ (zau h) rfl
def slots_l{W i off:Nat}(h:(slotsC W)[i]?=some (true,off)):off∈[9,10,19,28]:=by
 have hW:W<12:=by
  rcases zcs W 12 with q|q
  .exact q
  .rw[show slotsC W=[]from by unfold slotsC;split<;>first|omega|rfl]at h;simp at h
 have key:∀W<12,∀p∈slotsC W,p.1=true->p.2∈[9,10,19,28]:=by decide
 exact key W hW _ (zau h) rfl
def zvt(w:List UInt8)(n:Int)(ns:aQ):zgo w (n::ns)=zgo (w++32::Lib.itoa n) ns:=rfl
def ziE:∀(ns:aQ) (w:List UInt8),(∀n∈ns,W64 n)->(zgo w ns).length<=w.length+21*ns.length
 |[],w,_=>by simp[zgo]
 |n::ns,w,h=>by rw[zvt];have:=ziE ns (w++32::Lib.itoa n) (λm hm=>h m (by simp[hm]));have h2:=zqx (h n (by simp));simp only[zaW,zaJ]at this ⊢;omega
def zvb{w:List UInt8}{ns:aQ}(hw:w.length<=1000000)(hl:ns.length<=1000)(hn:∀n∈ns,W64 n):cw 36 [.v (.string (tx w)),.sl 1 (List.map zaj ns)] []=some (zfz (tx (zgo w ns))):=by
 refine zDx ?_
 have key:∀v:List UInt8,v.length<=1000000+21*0->ziS ns (tx v) (0:Nat)=some (zfz (tx (zgo v ns))):=by
  refine zoH ns (λi r=>∀v:List UInt8,v.length<=1000000+21*i->ziS ns (tx v) (i:Nat)=some (zfz (tx (zgo v r)))) ?_ ?_
  .intro v hv;refine ztg ?_;rw[zaC (by rw[zab];omega)];rfl
  .intro i x r hi hx hr ih v hv;have hxw:W64 x:=hn x (by rw[<-hx];exact zaq hi);have hxl:=zqx hxw;refine ztg ?_;rw[zaz (by rw[zab];omega),cPQ,zcc,show((i:Nat):Int).toNat=i from rfl,zaa hi,zad,hx,c_Itoa hxw,zcC,show(zkh:ByteArray)=tx [32]from rfl,zam (by rw[zdI,zdI];simp;omega),zqX,zam (by rw[zdI,zdI];simp;omega),zqX,w6Q,show((i:Nat):Int)+1=((i+1:Nat):Int)by omega];rw[ih _ (by simp;omega)];rfl
 exact key w (by omega)
def zDS{o:zbo}(h:OutW o):(outS o).length<=200:=by
 have h1:=zqx h.1;unfold outS;split
 . have:=ziE [o.R,o.xe] (Lib.itoa o.b++[32,103,114,97,100,101]) (λn hn=>by
    simp only[zH,zcF]at hn;rcases hn with rfl|rfl
    .exact h.2.1
    .exact h.2.2.1)
   simp only[zM]at this ⊢;omega
 . split
   .simp only[zM];omega
   . split
     . have:=ziE [o.xn] (Lib.itoa o.b++[32,112,101,110,100,105,110,103]) (λn hn=>by
        simp only[zH,zcF]at hn;subst hn
        exact h.2.2.2)
       simp only[zM]at this ⊢;omega
     .simp
def zs2{o:zbo}(h:OutW o):cw 11 [.agg (za8 o)] []=some (zfz (tx (outS o))):=by
 refine zB3 ?_;have h1:=zqx h.1;rw[c_Itoa h.1,zcC,show(zmw:ByteArray)=tx [32,103,114,97,100,101]from rfl,show(zmx:ByteArray)=tx [32,97,98,115,101,110,116]from rfl,show(zmy:ByteArray)=tx [32,112,101,110,100,105,110,103]from rfl,zqX,zqX,zqX];unfold outS;by_cases k0:o.k=0
 . rw[show(o.k==0)=true from beq_iff_eq.2 k0,zaM,zam (by rw[zdI,zdI];simp;omega),zvb (by simp;omega) (by simp) (λn hn=>by
    simp only[zH,zcF]at hn;rcases hn with rfl|rfl
    .exact h.2.1
    .exact h.2.2.1),zcC,if_pos k0]
   rfl
 rw[show(o.k==0)=false from beq_eq_false_iff_ne.2 k0,zaB,if_neg k0];by_cases k1:o.k=1
 .rw[show(o.k==1)=true from beq_iff_eq.2 k1,zaM,zam (by rw[zdI,zdI];simp;omega),if_pos k1];rfl
 rw[show(o.k==1)=false from beq_eq_false_iff_ne.2 k1,zaB,if_neg k1];by_cases k2:o.k=2
 . rw[show(o.k==2)=true from beq_iff_eq.2 k2,zaM,zam (by rw[zdI,zdI];simp;omega),zvb (by simp;omega) (by simp) (λn hn=>by
    simp only[zH,zcF]at hn;subst hn
    exact h.2.2.2),zcC,if_pos k2]
   rfl
 rw[show(o.k==2)=false from beq_eq_false_iff_ne.2 k2,zaB,if_neg k2];rfl
def zCx(a b:aQ)(ha:a.length<1000000000):cw 161 [.sl 1 (List.map zaj a),.sl 1 (List.map zaj b)] []=some (zao (decide (a=b))):=by
 refine zue ?_;by_cases hl:a.length=b.length
 . rw[show(((List.map zaj a).length:Int) !=((List.map zaj b).length:Int))=false from by rw[bne_eq_false_iff_eq,zab,zab,hl],zaB]
   have key:∀s:List Int,a.length-0=s.length->b.drop 0=s->zgO a b (0:Nat)=some (zao (decide (a=s))):=by
    refine zoH a (λi r=>∀s:List Int,r.length=s.length->b.drop i=s->zgO a b (i:Nat)=some (zao (decide (r=s)))) ?_ ?_
    .intro s hs _;refine zie ?_;rw[zaC (by rw[zab];omega)];have:s=[]:=zcr (by simpa using hs.symm);rw[this];rfl
    . intro i x r hi hx hr ih s hs hb;have hib:i<b.length:=by omega
      refine zie ?_;rw[zaz (by rw[zab];omega),cPQ,zcc,show((i:Nat):Int).toNat=i from rfl,zaa hi,zad,cPQ,zcc,zaa hib,zad,hx];rw[zbE hib]at hb;subst hb;simp only[zaJ,Nat.add_right_cancel_iff]at hs;by_cases he:x=b[i]
      .rw[show(x !=b[i])=false from by rw[bne_eq_false_iff_eq];exact he,zaB,w6Q,show((i:Nat):Int)+1=((i+1:Nat):Int)by omega,ih _ hs rfl];simp only[zap,he,true_and]
      . rw[show(x !=b[i])=true from by rw[bne_iff_ne];exact he,zaM];have:decide (x::r=b[i]::b.drop (i+1))=false:=by simp only[zap,he,false_and,decide_false]
        rw[this];rfl
   exact key b (by omega) rfl
 .rw[show(((List.map zaj a).length:Int) !=((List.map zaj b).length:Int))=true from by rw[bne_iff_ne,zab,zab];omega,zaM];have:decide (a=b)=false:=decide_eq_false (λe=>hl (by rw[e]));rw[this];rfl
def zJJ(a b:zaK)(h2:a.r.length<1000000000)(h3:a.I.length<1000000000):cw 150 [.agg (zaA a),.agg (zaA b)] []=some (zao (decide (a=b))):=by refine zAN ?_;rw[zCx _ _ h2,zCx _ _ h3];simp only[zaG,brn_and];obtain⟨s1,s2,s3,s4,s5,s6,s7⟩:=a;obtain⟨s1',s2',s3',s4',s5',s6',s7'⟩:=b;refine congrArg (λb=>some (B b,([]:Mem))) ?_;rw[zek];simp only[zO,beq_iff_eq,and_true,zaK.mk.injEq]
def lineF(o:GOp):Nat:=
 if o.k=0 then 0 else if o.k=1 then 1 else if o.k=2 then(if o.J.k=0 then 2 else if o.J.k=1 then 3 else 4)
 else if o.k=3 then 5 else if o.k=4 then(if o.M.k=0 then 6 else 7)else if o.k=5 then 8 else if o.k=6 then 9 else if o.k=7 then 10 else if o.k=8 then 11 else 12
def fill:List (Bool×Nat)->List Int->List (List Int)->GOp->GOp
 |[],_,_,c=>c
 |(false,o)::ps,n::ns,ls,c=>fill ps ns ls (putN n o c)
 |(true,o)::ps,ns,l::ls,c=>fill ps ns ls (putL l o c)
 |_,_,_,c=>c
def l1{α:Type}{l:List α}(h:l.length=1):∃a,l=[a]:=by match l,h with|[a],_=>exact⟨a,rfl⟩
def l2{α:Type}{l:List α}(h:l.length=2):∃a b,l=[a,b]:=by match l,h with|[a,b],_=>exact⟨a,b,rfl⟩
def zCE{o:GOp}{w:Nat}(hw:w<12)(h:isForm o w=true):lineF o=w:=by
 rcases lt12' hw with rfl|rfl|rfl|rfl|rfl|rfl|rfl|rfl|rfl|rfl|rfl|rfl
 all_goals
  simp only[zO,isForm,blankS,zOp,zdS]at h;obtain⟨h1,h2,h3⟩:=h;unfold lineF
  simp_all
def zKj{o:GOp}(h:zfF o<12):lineF o=zfF o:=by
 have:isForm o (zfF o)=true:=by
  unfold zfF at h ⊢
  cases hf:(List.range 12).find? (isForm o)with
  |none=>rw[hf]at h;simp at h
  |some w=>exact zel hf
 exact zCE h this
def copy_form{o:GOp}{W:Nat}(hW:W<12)(h:copyS W o=o):isForm o W=true:=by
 have h1:=congrArg GOp.k h;have h2:=congrArg (λq:GOp=>q.J.k) h;have h3:=congrArg (λq:GOp=>q.M.k) h;rcases lt12' hW with rfl|rfl|rfl|rfl|rfl|rfl|rfl|rfl|rfl|rfl|rfl|rfl
 all_goals
  simp only[zK,copyS,slotsC,blankS,zOp,zdL,List.foldl_nil,copy1,putN,putL,if_true]at h1 h2 h3;simp only[zO,isForm,blankS,zOp,zdS];simp[<-h1,<-h2,<-h3]
def zGt{o:GOp}{W:Nat}(hW:W<12)(h:copyS W o=o):zfF o=W:=by
 have hi:=copy_form hW h;have hl:=zCE hW hi
 have:zfF o<12:=by
  unfold zfF
  cases hf:(List.range 12).find? (isForm o)with
  |none=>exact absurd hi (List.find?_eq_none.1 hf W (zgq.2 hW))
  |some w=>exact zgq.1 (zcG hf)
 rw[<-zKj this,hl]
end Go.Proofs.YtcpnffbcljkbkaaGreatDoor
end
