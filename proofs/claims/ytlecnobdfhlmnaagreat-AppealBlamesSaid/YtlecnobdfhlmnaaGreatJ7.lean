/- appeal.Reopened by hand: a range over a map, in whatever order. -/
import Derived.Test.YtlecnobdfhlmnaaGreatJ6
import Derived.Test.YtlecnobdfhlmnaaGreatJ5
import Derived.Control
import Derived.Test.YtlecnobdfhlmnaaGreatJ0
import Derived.Test.YtlecnobdfhlmnaaGreatJ4
import Derived.Test.YtlecnobdfhlmnaaGreatAb9
import Derived.OpenShut
import Derived.DataElems
import Derived.ChangeArms
set_option linter.unusedSimpArgs false
set_option linter.unusedVariables false
noncomputable section
namespace Go.Proofs.YtlecnobdfhlmnaaGreat
open Go.Ab
set_option maxRecDepth 100000
noncomputable section
theorem Times.congr{s:zan}{f f':zaT->Option Int}{M:List (Int×Int)}(h:Times s f M)(e:∀x∈s.Scripts,f x=f' x):Times s f' M:=⟨h.nd,h.num,λx hx=>(h.val x hx).trans (e x hx)⟩
section
variable{w0:World}{S0:Nat->Prop}{κ0:Kap}{K:Nat->Prop}{a:Act}{w:World}
end
end
theorem mem_scope{s:zan}{m:za9}{a:zaA}{n:Int}:n∈scopeL s m a↔∃x∈s.Scripts,scopeB s m a x=true/\x.Number=n:=by
 unfold scopeL;rw[zbs];constructor
 · rintro⟨x,hx,h⟩
   obtain⟨h1,h2⟩:=zcc.1 hx;exact⟨x,h1,h2,h⟩
 · rintro⟨x,h1,h2,h⟩
   exact⟨x,zcc.2 ⟨h1,h2⟩,h⟩
section
variable{s:zan}{m:za9}{c:List zaA}{bl:List Int}
end
theorem zJS{r:zbp}{q:zbG}{s:zan}{ev:List zac}{c:List zaA}{n:Int}(h:n∈zgA r q s ev c):∃x∈s.Scripts,x.Number=n/\∃a∈c,a.Kind=0/\∀m,scopeB s m a x=true:=by
 unfold zgA at h;obtain⟨p,hp,rfl⟩:=zbs.1 h;obtain⟨h1,_⟩:=zcc.1 hp;unfold zjx at h1;obtain⟨x,hx,h2,h3⟩:=zs2.1 h1;obtain⟨a,ha,hb,_⟩:=timeS_mem h2;obtain⟨ha,hk⟩:=zcc.1 ha;have hk:a.Kind=0:=by simpa using hk
 refine⟨x,hx,h3,a,ha,hk,λm=>?_⟩;unfold scopeB at hb ⊢;rw[hk]at hb ⊢;simpa[marksB]using hb
theorem zHG{r:zbp}{q:zbG}{s:zan}(hs:zb3 s)(ev:List zac)(c:List zaA):(zgA r q s ev c).Nodup/\(zgA r q s ev c).length<=60:=by
 have h:=zG1 hs (timeS s ⟨[],[]⟩ (c.filter λa=>a.Kind==0));have hl:=zvS s (timeS s ⟨[],[]⟩ (c.filter λa=>a.Kind==0));have h60:=hs.scripts.1;unfold zgA zjx;constructor
 ·exact((h.imp λh e=>by omega:(List.map _ _).Nodup)).sublist ((List.filter_sublist).map _)
 ·rw[zad];exact zbP (zee _ _) (by omega)
set_option maxRecDepth 20000
theorem c_Rule(d:zaj)(hd:DOk d):∃(q:zbG) (d':zaj),cw zqb [.loc 1000 2 0 0] (mD d)=some (zqj (q,d'))/\chkR q=0/\DOk d':=by
 obtain⟨b,d1,h1,hd1⟩:=zqY d 2 hd (by omega);obtain⟨n,d2,h2,h0,h3,hd2⟩:=zdk d1 3 hd1 (by omega);refine⟨⟨b,n⟩,d2,zDs ?_,?_,hd2⟩
 ·simp only[h1,h2,zdT,zbo];rfl
 · unfold chkR
   grind
theorem zII(d:zaj)(hd:DOk d):∃(r:zbp) (d':zaj),cw zlw [.loc 1000 2 0 0] (mD d)=some (zlE (r,d'))/\chkA r=0/\DOk d':=by
 obtain⟨a,d1,h1,ha,hd1⟩:=c_Pick d [1000,100,0] hd (by simp) (by simp);obtain⟨n,d2,h2,n0,n1,hd2⟩:=zdk d1 2 hd1 (by omega);obtain⟨k,d3,h3,k0,k1,hd3⟩:=zdk d2 3 hd2 (by omega);refine⟨⟨a,1+n,k⟩,d3,zwq ?_,?_,hd3⟩
 ·rw[h1,zbo];simp only;rw[h2,zbo];simp only;rw[h3,zbo,w6Q];rfl
 · unfold chkA
   grind
theorem c_Appeals(d:zaj)(s:zan)(hd:DOk d)(hs:DSetup s):∃(l:List zaA) (d':zaj),cw znF [.loc 1000 2 0 0,.agg (zas s),I 5] (mD d)=some (zkv (l,d'))/\l.length<=10/\DOk d':=by
 have hm1:=hs.markers.1;have hm2:=hs.markers.2.1
 let Q:AV×Mem->Prop:=λy=>∃(l:List zaA) (d':zaj),y=zkv (l,d')/\l.length<=10/\DOk d'
 have loop:∀(n i:Nat) (xs:List zaA) (d:zaj),i+n=5->xs.length<=2*i->DOk d->Sat Q (zhH s 5 (mE xs) d i):=by
  intro n
  induction n with
  |zero=>intro i xs d hi hx hd;refine sat_of (λy=>zqM) ?_;rw[zaN (by omega),cPQ,zdm];exact zqk ⟨xs,d,rfl,by omega,hd⟩
  |succ n ih =>
    intro i xs d hi hx hd
    have next:∀(a:zaA) (d:zaj),DOk d->Sat Q (zh8 s 5 (mE xs) i a d):=by
     intro a d hd;have hraw:mE xs++[[AV.v (Go.Value.int IntKind.i64 a.Stamp.Time),AV.v (Go.Value.int IntKind.i64 a.Stamp.Source),AV.v (Go.Value.int IntKind.i64 a.Stamp.Seq),AV.v (Go.Value.int IntKind.i64 a.Kind),AV.v (Go.Value.int IntKind.i64 a.Candidate),AV.v (Go.Value.int IntKind.i64 a.Marker)]]=mE (xs++[a]):=by simp only[<-zd3 zaw];rfl
     obtain⟨b,d1,e1,hd1⟩:=zqY d 5 hd (by omega);refine sat_of (λy=>zvj) ?_;rw[hraw,zao rfl,zao (by grind),zao rfl,e1,zdT];simp only[zd3 zaw]
     try simp only
     rw[w6Q,show((i:Int)+1)=((i+1:Nat):Int)by omega]
     cases b with
     |false=>rw[zaz];exact ih (i+1) (xs++[a]) d1 (by omega) (by simp;omega) hd1
     |true =>
       obtain⟨v,d2,e2,h0,h1,hd2⟩:=zdk d1 ((mE (xs++[a])).length:Int) hd1 (by grind);have hv:v.toNat<(xs++[a]).length:=by simp only[zad,zcb,zhX]at h1 ⊢;omega
       rw[zaV,e2,zbo];simp only;rw[zao h0,zao (by simp_all),zaY,zjE,zaa hv,zae];simp only[zbx];rw[zao (by grind)]
       try simp only[zd3 zaw]
       exact ih (i+1) (xs++[a]++[(xs++[a])[v.toNat]]) d2 (by omega) (by simp;omega) hd2
    obtain⟨u,d1,e1,u0,u1,hd1⟩:=zdk d 200 hd (by omega);obtain⟨v,d2,e2,v0,v1,hd2⟩:=zdk d1 3 hd1 (by omega);obtain⟨b,d3,e3,hd3⟩:=zqY d2 4 hd2 (by omega);refine sat_of (λy=>zqM) ?_;rw[zaB (by omega),e1,zbo];simp only;rw[e2,zbo];simp only;rw[e3,zdT]
    cases b with
    |true =>
      obtain⟨k,d4,e4,k0,k1,hd4⟩:=zdk d3 ((mH s.Markers).length:Int) hd3 (by grind);have hk:k.toNat<s.Markers.length:=by rw[zad]at k1;omega
      simp_all
    |false =>
      obtain⟨k,d4,e4,k0,k1,hd4⟩:=zdk d3 4 hd3 (by omega)
      simp_all
 obtain⟨y,e1,l,d',rfl,h⟩:=loop 5 0 [] d (by omega) (by simp) hd;exact⟨l,d',zzz e1,h⟩
def rv(a b c d:Int):zaA:=⟨⟨a,b,c⟩,0,d,0⟩
theorem c_review(a b c d:Int):cw ziO [I a,I b,I c,I d] []=some (zsw (rv a b c d)):=zGe rfl
def inTime(r:zbp)(p:Int)(l:List zaA):List zaA:=l.filter λa=>stampB a.Stamp&&decide (0<=p/\p<=1000000/\p<=a.Stamp.Time/\a.Stamp.Time-p<=r.Days)
theorem c_InTime(r:zbp)(p:Int)(l:List zaA)(hl:l.length<=1000000):cw zq9 [.agg (zck r),I p,.sl 6 (mE l)] []=some (zn2 (inTime r p l)):=by
 refine zES ?_;by_cases h0:0<=p/\p<=1000000
 case neg =>
  have e:inTime r p l=[]:=by
   unfold inTime
   (simp_all;omega)
  rw[e];by_cases h1:p<0
  ·rw[zaB h1];rfl
  ·rw[zaN h1,zaB (by omega)];rfl
 rw[zaN (by omega),zaN (by omega)];refine zcl l (λi rest=>∀out:List zaA,(out.length:Int)<=i->zg1 r p l (mE out) i=some (zn2 (out++inTime r p rest))) ?_ ?_ [] (by simp)
 ·intro out ho;refine ztV ?_;rw[zad,zaN (by omega),zao rfl];unfold inTime;rw[zeQ,zdx];rfl
 · intro i hi rest _ ih out ho;refine ztV ?_;rw[zad,zaB (by omega),cPQ,zah,zjE,zaa hi,zae,zuK,zau,zao rfl,zao (by grind),zao rfl,w64_id (show -9223372036854775808<=(i:Int)+1 by omega) (by omega)];unfold inTime at ih ⊢;rw[zcn];generalize l[i]=a
   cases hs:stampB a.Stamp with
   |false =>
     rw[zaz,zcF,iNs]
     grind
   |true =>
     have ht:0<=a.Stamp.Time/\a.Stamp.Time<=1000000:=by unfold stampB at hs;simp only[decide_eq_true_eq]at hs;exact hs.1
     rw[zaV,zcx,w6Q];by_cases h1:p<=a.Stamp.Time
     · by_cases h2:a.Stamp.Time-p<=r.Days
       · rw[zaB h1,zaB h2,if_pos (by simp;omega)];have:=ih (out++[a]) (by simp;omega)
         simp_all
       · rw[zaB h1,zaN h2,if_neg (by simp;omega)]
         grind
     · rw[zaN h1,if_neg (by simp;omega)]
       grind
def S38:zan:=⟨[],[⟨7,0,7,3,0,[],[]⟩,⟨8,0,8,3,0,[],[]⟩],[],[],[],⟨0,0,0,0⟩⟩
theorem okS38:zkM S38.Scripts:=by
 refine⟨by decide,λx hx=>?_,λj hj=>?_⟩
 · have:x=⟨7,0,7,3,0,[],[]⟩\/x=⟨8,0,8,3,0,[],[]⟩:=by simpa[S38]using hx
   unfold zmu;rcases this with rfl|rfl<;>simp
 · have:j=0:=by simp only[S38,zcP,zcZ]at hj;omega
   subst this;show(7:Int)<8;omega
theorem c_sane38:cw zre [] []=some (zap true):=by
 refine zI1 ?_;simp only[c_review,zAr];have h1:appS [rv 5 3 0 7,rv 5 3 0 7,rv 2 3 1 8]=([rv 2 3 1 8,rv 5 3 0 7],0):=by kernel_rfl
 have h2:scopeL S38 ⟨[],[]⟩ (rv 5 3 0 7)=[7]:=by kernel_rfl
 have h3:scopeL S38 ⟨[],[]⟩ (rv 5 4 0 7)=[]:=by kernel_rfl
 have h4:inTime ⟨3,0,0⟩ 2 [rv 2 3 1 8,rv 5 3 0 7]=[rv 2 3 1 8,rv 5 3 0 7]:=by kernel_rfl
 have h5:ziG (rv 2 3 1 8)=true:=by kernel_rfl
 rw[zAi (l:=[rv 5 3 0 7,rv 5 3 0 7,rv 2 3 1 8]) (by simp),h1,zlr];have e1:=zBn okS38 (by decide) ⟨[],[]⟩ (by simp) (rv 5 3 0 7);have e2:=zBn okS38 (by decide) ⟨[],[]⟩ (by simp) (rv 5 4 0 7);rw[h2]at e1;rw[h3]at e2;unfold S38 at e1 e2;rw[e1,zgz,e2,zgz,c_InTime _ _ _ (by simp),h4,zzu];rw[cPQ,zjE,show([rv 2 3 1 8,rv 5 3 0 7]:List zaA)[Int.toNat 0]?=some (rv 2 3 1 8)from rfl,zae];rw[cPQ,zce,show([7]:List Int)[Int.toNat 0]?=some 7 from rfl,zae];rw[cPQ,zjE,show([rv 2 3 1 8,rv 5 3 0 7]:List zaA)[Int.toNat 0]?=some (rv 2 3 1 8)from rfl,zae,zDg,h5,zau,zDf,za7];rfl
set_option maxRecDepth 20000
theorem appS_ok{l:List zaA}(h:l.length<=24):(appS l).2=0:=by unfold appS;have h1:=zEy l;have h2:=zEz l;rw[iNQ]
set_option maxRecDepth 20000
theorem zJR{r:zbp}{q:zbG}{s:zan}{ev:List zac}{l:List zaA}(hr:chkA r=0)(hq:chkR q=0)(hl:l.length<=24):zyf r q s ev l=(zgA r q s ev (appS l).1,0):=by unfold zyf;rw[if_pos ⟨hr,hq⟩,if_pos (appS_ok hl)]
set_option maxRecDepth 20000
theorem sub_len:∀{l m:List Int},l.Nodup->(∀x∈l,x∈m)->l.length<=m.length
 |[],m,_,_=>by simp
 |x::r,m,hn,h=>by
   obtain⟨h1,h2⟩:=zfE.1 hn;have hx:=h x (by simp);have:=sub_len (l:=r) (m:=m.erase x) h2 (λy hy=>(List.mem_erase_of_ne (λq=>h1 (by rw[<-q];exact hy))).2 (h y (by simp[hy])))
   grind
theorem zDJ(t:List Int):cw zrd [.sl 1 (List.map zai t)] []=some (zap true):=by
 refine zyi ?_;rw[c_Light,zau];by_cases ht:(t.length:Int)<=600
 case neg=>rw[decide_eq_false ht,zbe,zaV,c_sane38,zau];rfl
 rw[decide_eq_true ht,zaF,zaz,c_Roll,zEI];obtain⟨s,d1,e1,hs,hd1⟩:=c_Setup ⟨t,0⟩ ⟨by simp,by grind⟩;obtain⟨a,d2,e2,ha,hpa,hd2⟩:=c_Full d1 s 20 hd1 hs (by omega);obtain⟨b,d3,e3,hb,hpb,hd3⟩:=c_Events d2 s 20 hd2 hs (by omega);obtain⟨l,d4,e4,hl,hd4⟩:=c_Appeals d3 s hd3 hs;obtain⟨r,d5,e5,hr,hd5⟩:=zII d4 hd4;obtain⟨q,d6,e6,hq,hd6⟩:=c_Rule d5 hd5;rw[e1,zw9];simp only;rw[e2,zq2];simp only;rw[e3,zq2];simp only;have hlab:(a++b).length<=140:=by rw[zcb];omega
 have hpg:∀e∈a++b,e.Pages.length<=1000000:=λe he=>by grind
 have hev:OkApp s (a++b) l:=⟨hs.ok,by omega,hpg,by omega⟩
 have hsd:=hs.ok.seeds;have hm16:=hs.ok.markers.1;have hcn:=zHG (r:=r) (q:=q) hs.ok (a++b) (appS l).1;have hgl:=fold_len s (few_ev hev);have hc24:=appS_few l;simp only[zdm,<-zcC];simp(disch:=omega)only[zad,zaY,zaX,zbx,zao,e4,zvn,e5,zts,e6,zya,zIT hs.ok (show(a++b).length<=2000 by omega) hev.2.2.1,zp6,c_Changed hev,zmy,zJR hr hq (show l.length<=24 by omega),c_Blamed hev _ hcn.1 (show _<=1000 by omega),zmy,hr,if_true,zAi hev.2.2.2,zlr,appS_ok (show l.length<=24 by omega),bne_self_eq_false,zaz];have hcm:∀n∈zgA r q s (a++b) (appS l).1,_:=λn hn=>zJS hn
 have hbm:∀id∈zqt r s (foldS s (a++b)) (zgA r q s (a++b) (appS l).1),∃x∈s.Markers,x.Level=1/\r.Fails<=((zgA r q s (a++b) (appS l).1).filter (marksB (foldS s (a++b)) x.ID)).length/\x.ID=id:=λid hid=>by
  unfold zqt at hid
  grind
 have hbl:(zqt r s (foldS s (a++b)) (zgA r q s (a++b) (appS l).1)).length<=16:=by unfold zqt;rw[zad];exact zbP (zee _ _) hm16
 have hle:(appS l).2=0:=appS_ok (by omega);clear hev e4 e5 e6;generalize zgA r q s (a++b) (appS l).1=ch at *;generalize zqt r s (foldS s (a++b)) ch=bl at *;generalize foldS s (a++b)=M at *;generalize appS l=C at *;obtain⟨c,z⟩:=C;simp only at hle hc24 hcm ⊢;subst hle;obtain⟨hnd,h60⟩:=hcn
 have hsc:∀x,(scopeL s M x).length<=60:=λx=>by unfold scopeL;rw[zad];exact zbP (zee _ _) hs.ok.scripts.1
 have hScp:∀x:zaA,cw ziN [.agg (zas s),.agg (zbI M),.agg (zaw x)] []=some (zeg (scopeL s M x)):=λx=>zBn hs.ok.scripts (by omega) M (by omega) x
 let T:=some (zap true)
 have l6:∀(i4:Int) (id:Int) (mr:za3×Bool) (j5:Int) (g:za5) (rest:List za5) (f0:List (Int×Bool)),(∀f:List (Int×Bool),(∀n∈ch,marksB M id n=true->n∈f.map (·.1)\/(rest.any λg=>g.Marker==id&&g.Script==n)=true)->zhj (s,d1) (r,d5) (ch,0) (bl,0) (M,0) i4 id mr (mO f) (w64 (j5+1))=T)->(∀n∈ch,marksB M id n=true->n∈f0.map (·.1)\/((g::rest).any λg=>g.Marker==id&&g.Script==n)=true)->zeJ (s,d1) (r,d5) (ch,0) (bl,0) (M,0) i4 id mr j5 g (mO f0) 0=T:=by
  intro i4 id mr j5 g rest f0 hk h0;refine zcl ch (λi cr=>∀f:List (Int×Bool),(∀n∈ch,marksB M id n=true->n∈f.map (·.1)\/(rest.any λg=>g.Marker==id&&g.Script==n)=true\/(n∈cr/\(g.Marker==id&&g.Script==n)=true))->zeJ (s,d1) (r,d5) (ch,0) (bl,0) (M,0) i4 id mr j5 g (mO f) i=T) ?_ ?_ f0 ?_
  · intro f hf;refine zpQ ?_
    try dsimp only
    rw[zad,zaN (by omega)]
    grind
  · intro i hi cr _ ih f hf;refine zpQ ?_
    try dsimp only
    rw[zad,zaB (by omega),cPQ,zah,zce,zaa hi,zae,w6Q]
    have skip:(g.Marker==id&&g.Script==ch[i])=false->zeJ (s,d1) (r,d5) (ch,0) (bl,0) (M,0) i4 id mr j5 g (mO f) ((i:Int)+1)=T:=λh=>ih f λn hn hm=>by grind
    cases h1:g.Marker==id with
    |false=>rw[zaz];grind
    |true =>
      rw[zaV]
      cases h2:g.Script==ch[i]with
      |false=>rw[zaz];grind
      |true =>
        rw[zaV,zjG];refine ih _ λn hn hm=>?_
        have put:∀n,n=ch[i]\/n∈f.map (·.1)->n∈(mput ch[i] true f).map (·.1):=λn h=>by
         rw[zDQ];by_cases hne:n=ch[i]
         ·rw[hne,zc5];rfl
         · rw[zdr _ hne,<-zDQ]
           grind
        grind
  ·grind
 have l4:zhi (s,d1) (r,d5) (ch,0) (bl,0) (M,0) 0=T:=by
  refine zcl bl (λi rest=>(∀x∈rest,x∈bl)->zhi (s,d1) (r,d5) (ch,0) (bl,0) (M,0) i=T) ?_ ?_ (λ_ h=>h)
  · intro _;refine zpO ?_
    try dsimp only
    rw[zad,zaN (by omega),c_sane38,zau];rfl
  · intro i hi rest _ ih hm;obtain⟨x,hx,hlv,hfl,hid⟩:=hbm bl[i] (zar hi);obtain⟨k,hk⟩:=zAY hs.ok hx;refine zpO ?_
    try dsimp only
    rw[zad,zaB (by omega),cPQ,zah,zce,zaa hi,zae,zq0 s.Markers _ (by omega),zkb,<-hid,hk];refine zcl M.Given (λj gr=>∀f:List (Int×Bool),(∀n∈ch,marksB M x.ID n=true->n∈f.map (·.1)\/(gr.any λg=>g.Marker==x.ID&&g.Script==n)=true)->zhj (s,d1) (r,d5) (ch,0) (bl,0) (M,0) i x.ID (x,true) (mO f) j=T) ?_ ?_ [] (λn _ h=>.inr h)
    · intro f hf
      have hle:(ch.filter (marksB M x.ID)).length<=(f.map (·.1)).length:=sub_len (hnd.filter _) λn hn=>by simp_all
      rw[zad]at hle;refine zpP ?_
      try dsimp only
      rw[zad,zaN (by omega),zaF,zaz,show(x.Level !=1)=false by simpa using hlv,zaz,zad,zaN (by omega),w6Q]
      grind
    · intro j hj gr _ ihj f hf;refine zpP ?_
      try dsimp only
      rw[zad,zaB (by omega),cPQ,zah,zf5,zaa hj,zae];refine l6 _ _ _ _ _ gr _ (λf' hf'=>?_) hf;rw[w6Q];exact ihj f' hf'
 have l3:∀(i1:Int) (n:Int) (j2:Int) (x:zaA) (f0:Bool),zhh (s,d1) (r,d5) (ch,0) (bl,0) (M,0) (c,0) i1 n (f0||(scopeL s M x).any λk=>k==n&&x.Kind==0) (w64 (j2+1))=T->zfr (s,d1) (r,d5) (ch,0) (bl,0) (M,0) (c,0) i1 n j2 x (scopeL s M x) f0 0=T:=by
  intro i1 n j2 x f0 hk;have hs60:=hsc x;refine zcl (scopeL s M x) (λi rest=>∀f:Bool,(f||rest.any λk=>k==n&&x.Kind==0)=(f0||(scopeL s M x).any λk=>k==n&&x.Kind==0)->zfr (s,d1) (r,d5) (ch,0) (bl,0) (M,0) (c,0) i1 n j2 x (scopeL s M x) f i=T) ?_ ?_ f0 rfl
  · intro f hf;refine zpN ?_
    try dsimp only
    rw[zjm,zga]at hf;rw[zad,zaN (by omega),hf];exact hk
  · intro i hi rest _ ih f hf;rw[zfp,<-Bool.or_assoc]at hf;refine zpN ?_
    try dsimp only
    rw[zad,zaB (by omega),cPQ,zah,zce,zaa hi,zae,w6Q]
    cases f with
    |true=>rw[zaV];grind
    |false =>
      rw[zaz]
      cases h1:(scopeL s M x)[i]==n with
      |true=>rw[zaV];grind
      |false=>rw[zaz];grind
 refine zcl ch (λi rest=>(∀n∈rest,n∈ch)->zi2 (s,d1) (r,d5) (ch,0) (bl,0) (M,0) (c,0) i=T) ?_ ?_ (λ_ h=>h)
 · intro _;refine zpL ?_
   try dsimp only
   rw[zad,zaN (by omega)];exact l4
 · intro i hi rest _ ih hm;obtain⟨y,hy,hyn,x,hx,hkx,hb⟩:=hcm ch[i] (zar hi);have hany:(c.any λa=>(scopeL s M a).any λk=>k==ch[i]&&a.Kind==0)=true:=zfN.2 ⟨x,hx,zfN.2 ⟨ch[i],mem_scope.2 ⟨y,hy,hb M,hyn⟩,by simp[hkx]⟩⟩;refine zpL ?_
   try dsimp only
   rw[zad,zaB (by omega),cPQ,zah,zce,zaa hi,zae];refine zcl c (λj cr=>∀f:Bool,(f||cr.any λa=>(scopeL s M a).any λk=>k==ch[i]&&a.Kind==0)=true->zhh (s,d1) (r,d5) (ch,0) (bl,0) (M,0) (c,0) i ch[i] f j=T) ?_ ?_ false (by simpa using hany)
   · intro f hf;refine zpM ?_
     try dsimp only
     rw[zjm,zga]at hf;rw[zad,zaN (by omega),hf,zaF,zaz,w6Q]
     grind
   · intro j hj cr _ ih2 f hf;rw[zfp,<-Bool.or_assoc]at hf;refine zpM ?_
     try dsimp only
     rw[zad,zaB (by omega),cPQ,zah,zjE,zaa hj,zae,hScp,zgz];refine l3 _ _ _ _ _ ?_;rw[w6Q];exact ih2 _ hf
end Go.Proofs.YtlecnobdfhlmnaaGreat
namespace Go.Ab
open Go.RowKit
abbrev Old(w:World):Nat->Prop:=λg=>g<w.heap.size
def Rd(P:Program)(w:World)(t:TypeId)(n:Nat){T:Type}(nT:T->List AV):Prop:=
 P.cellsOf t=n/\(∀v,(nT v).length=n)/\∀(H:Type) (enc:TypeId×Value->H) (base:Nat) (spare:Nat->Bool) (held:Bool) (fuel:Nat) (cs:List Value) (x:DataW H×List MemPlace),DataW.trod enc P w base spare held fuel t cs=some x->∃v:T,cs.length=n/\∀(j:Nat) (c:AV) (y:Value),(nT v)[j]?=some c->cs[j]?=some y->CRel (Old w) w c y/\y.oneCell'=true
theorem rd_int{P:Program}{w:World}{t:TypeId}{k:IntKind}(hc:P.cellsOf t=1)(ht:P.underlying t=some (.int k)):Rd P w t 1 (λn:Int=>[AV.v (.int k n)]):=by
 refine⟨hc,λ_=>rfl,λH enc base spare held fuel cs x h=>?_⟩;obtain⟨n,rfl,_,_⟩:=DataW.trod_int ht h;refine⟨n,rfl,λj c y h1 h2=>?_⟩
 cases j with
 |zero=>simp at h1 h2;subst h1;subst h2;exact⟨.v _,rfl⟩
 |succ j=>simp at h1
theorem list_of{T:Type}{R:Nat->T->Prop}:∀n:Nat,(∀i,i<n->∃v,R i v)->∃l:List T,l.length=n/\∀i v,l[i]?=some v->R i v
 |0,_=>⟨[],rfl,λi v h=>by simp at h⟩
 |n+1,h=>by
   obtain⟨l,h1,h2⟩:=list_of n (λi hi=>h i (by omega));obtain⟨v,hv⟩:=h n (by omega);refine⟨l++[v],by simp[h1],λi u hu=>?_⟩;by_cases hi:i<n
   ·rw[zd8 (by omega)]at hu;exact h2 i u hu
   · have hlt:=(zam.1 hu).1;simp at hlt;have:i=l.length:=by omega
     subst this;rw[List.getElem?_append_right (by omega)]at hu;simp at hu;subst hu;rw[h1];exact hv
theorem rd_slice{P:Program}{w:World}{t e:TypeId}{n:Nat}{T:Type}{nT:T->List AV}(hc:P.cellsOf t=1)(ht:P.underlying t=some (.slice e))(hn:0<n)(he:Rd P w e n nT):Rd P w t 1 (λl:List T=>[AV.sl n (l.map nT)]):=by
 refine⟨hc,λ_=>rfl,λH enc base spare held fuel cs x h=>?_⟩
 have done:∀(l:List T) (y:Value),CRel (Old w) w (.sl n (l.map nT)) y->y.oneCell'=true->∃v:List T,[y].length=1/\∀(j:Nat) (c:AV) (z:Value),[AV.sl n (v.map nT)][j]?=some c->[y][j]?=some z->CRel (Old w) w c z/\z.oneCell'=true:=by
  intro l y hy h1;refine⟨l,rfl,λj c z hj hz=>?_⟩
  cases j with
  |zero=>simp at hj hz;subst hj;subst hz;exact⟨hy,h1⟩
  |succ j=>simp at hj
 rcases DataW.trod_slice ht h with⟨rfl,_⟩|⟨a,len,cap,elems,rest,m,rfl,rfl,_,hb,hl,_,hlen,hel,_,_⟩
 ·exact done [] _ (CRel.nil_sl n) rfl
 · have each:∀i,i<len->∃v:T,a.block<w.heap.size/\∀(j:Nat) (c:AV),(nT v)[j]?=some c->∃y,w.cell? (a.add (i*n+j))=some y/\CRel (Old w) w c y/\y.oneCell'=true:=by
    intro i hi;have h1:=hel i hi;rw[zaa (by omega),he.1]at h1;obtain⟨cs',h2,h3⟩:=Option.bind_eq_some_iff.1 h1;obtain⟨v,h4,h5⟩:=he.2.2 H enc base spare held m cs' _ h3;obtain⟨h6,h7,h8⟩:=World.cells?_some h2;have hblk:=World.cells?_block h2 hn;rw[zmn]at hblk;refine⟨v,hblk,λj c hj=>?_⟩;have hjn:j<n:=by have:=(zam.1 hj).1;rw[he.2.1]at this;exact this
    have h9:=h8 j hjn;rw[Go.Addr.add_add]at h9;have h10:cs'[j]?=some (cs'[j]'(by omega)):=zaa (by omega);refine⟨cs'[j]'(by omega),by rw[h9,h10],h5 j c _ hj h10⟩
   obtain⟨l,hll,hlr⟩:=list_of len each;refine done l _ (.sl n _ (some a) len cap (λi j=>(w.cell? (a.add (i*n+j))).getD undef) (by simp;omega) hl (λcs hcs=>by obtain⟨v,_,rfl⟩:=zbs.1 hcs;exact he.2.1 v) ?_ ?_) rfl
   · cases l with
     |nil=>left;rfl
     |cons v l'=>right;refine⟨a,rfl,(hlr 0 v rfl).1,λi j cs c h1 h2=>?_⟩;rw[zbC]at h1;obtain⟨u,hu,rfl⟩:=zcW.1 h1;obtain⟨y,hy,hr,ho⟩:=(hlr i u hu).2 j c h2;rw[hy];exact⟨rfl,ho⟩
   ·intro i j cs c h1 h2;rw[zbC]at h1;obtain⟨u,hu,rfl⟩:=zcW.1 h1;obtain⟨y,hy,hr,ho⟩:=(hlr i u hu).2 j c h2;rw[hy];exact hr
theorem arg_cell{P:Program}{w:World}{t:TypeId}{T:Type}{f:T->AV}(hr:Rd P w t 1 (λv=>[f v])){H:Type}{enc:TypeId×Value->H}{base:Nat}{spare:Nat->Bool}{held:Bool}{y:Value}(hy:y.cells.toList=[y]){d:DataW H}{ps:List MemPlace}
  (h:DataW.Trod enc P w base spare held t y d ps) {κ:Kap} {D:Nat->Prop}:∃v:T,VRel (Old w) κ D w (f v) y:=by
 obtain⟨fuel,hf⟩:=h;rw[hy]at hf;obtain⟨v,_,h2⟩:=hr.2.2 H enc base spare held fuel _ _ hf;exact⟨v,.c (h2 0 _ _ rfl rfl).1⟩
end Go.Ab
end
