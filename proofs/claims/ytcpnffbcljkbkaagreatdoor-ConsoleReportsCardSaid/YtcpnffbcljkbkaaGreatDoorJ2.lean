/- Rules and operations of a board, bc the dice make them: each operation has a line. -/
import Derived.Test.YtcpnffbcljkbkaaGreatDoorJ0
import Derived.Test.YtcpnffbcljkbkaaGreatDoorJ1
import Derived.Test.YtcpnffbcljkbkaaGreatDoorK2
import Derived.Test.YtcpnffbcljkbkaaGreatDoorXAnn
import Derived.Test.YtcpnffbcljkbkaaGreatDoorXCs
import Derived.Test.YtcpnffbcljkbkaaGreatDoorAb2
import Derived.Control
set_option linter.all false
noncomputable section
namespace Go.Proofs.YtcpnffbcljkbkaaGreatDoor
open Go.Ab Go.Str
set_option maxRecDepth 100000
def OkO(o:GOp):Prop:=fmtS o≠none/\OpW o
def fits_w{n:Int}(h:fits n):W64 n:=by unfold fits at h;unfold W64;omega
def nf_fits{n:Int}(h:Nf n):fits n:=by unfold Nf at h;unfold fits;omega
def blank_w{W:Nat}(hW:W<12):OpW (blankS W):=by
 rcases lt12' hW with rfl|rfl|rfl|rfl|rfl|rfl|rfl|rfl|rfl|rfl|rfl|rfl
 all_goals
  refine⟨λk=>?_,λk=>?_⟩
  .unfold getN W64;split<;>exact⟨by decide,by decide⟩
  .unfold getL;split<;>exact⟨by decide,by intro n hn;cases hn⟩
def getN_putN(k j:Nat)(v:Int)(o:GOp):getN k (putN v j o)=v\/getN k (putN v j o)=getN k o:=by unfold putN;split<;>(unfold getN;split<;>first|exact Or.inl rfl|exact Or.inr rfl)
def getN_putL(k j:Nat)(v:aQ)(o:GOp):getN k (putL v j o)=getN k o:=by unfold putL;split<;>(unfold getN;split<;>rfl)
def getL_putN(k j:Nat)(v:Int)(o:GOp):getL k (putN v j o)=getL k o:=by unfold putN;split<;>(unfold getL;split<;>rfl)
def getL_putL(k j:Nat)(v:aQ)(o:GOp):getL k (putL v j o)=v\/getL k (putL v j o)=getL k o:=by unfold putL;split<;>(unfold getL;split<;>first|exact Or.inl rfl|exact Or.inr rfl)
def copy_w(o:GOp):∀(ps:List (Bool×Nat)) (c:GOp),(∀p∈ps,okW o p)->OpW c->OpW (ps.foldl (copy1 o) c)
 |[],c,_,hc=>hc
 |p::ps,c,h,hc=>by
   refine copy_w o ps _ (λq hq=>h q (by simp[hq])) ?_;have hp:=h p (by simp);unfold okW at hp;unfold copy1;split
   . rename_i hb;rw[if_pos hb]at hp;refine⟨λk=>by rw[getN_putL];exact hc.num k,λk=>?_⟩;rcases getL_putL k p.2 (getL p.2 o) c with e|e
     .rw[e];exact⟨by omega,λn hn=>fits_w (hp.2 n hn)⟩
     .rw[e];exact hc.list k
   . rename_i hb;rw[if_neg hb]at hp;refine⟨λk=>?_,λk=>by rw[getL_putN];exact hc.list k⟩;rcases getN_putN k p.2 (getN p.2 o) c with e|e
     .rw[e];exact fits_w hp
     .rw[e];exact hc.num k
def ok_of{o:GOp}{W:Nat}(hW:W<12)(hok:∀p∈slotsC W,okW o p)(hc:copyS W o=o):OkO o:=by
 have hf:=zGt hW hc;refine⟨?_,?_⟩
 .unfold fmtS;rw[hf,if_pos ⟨hW,hok,hc⟩];exact λe=>by cases e
 .rw[<-hc];exact copy_w o _ _ hok (blank_w hW)
def okN{o:GOp}{k:Nat}(h:Nf (getN k o)):okW o (false,k):=by unfold okW;rw[iNs];exact nf_fits h
def okL{o:GOp}{k:Nat}(h:(getL k o).length<=300)(h2:∀n∈getL k o,Nf n):okW o (true,k):=by unfold okW;rw[if_pos rfl];exact⟨h,λn hn=>nf_fits (h2 n hn)⟩
def zvy{a b c:Int}(ha:Nf a)(hb:Nf b)(hc:Nf c):OkO ⟨0,⟨a,b,c⟩,⟨0,0,0,0,0,[],[]⟩,⟨⟨0,0,0⟩,0,0,0,0,0,[]⟩,⟨0,0⟩,⟨⟨0,0,0⟩,0,0,0⟩,[],0,0⟩:=
 ok_of (W:=0) (by decide) (λp hp=>by
  simp only[zX,slotsC]at hp;rcases hp with rfl|rfl|rfl
  .exact okN ha
  .exact okN hb
  .exact okN hc) rfl
def zGN{x:zaK}(h1:Nf x.l)(h2:Nf x.v)(h3:Nf x.b)(h4:Nf x.w)(h5:Nf x.D)(h6:∀y∈x.r,Nf y)(h7:∀y∈x.I,Nf y)(h8:x.r.length=2)(h9:x.I.length<=3):OkO ⟨1,⟨0,0,0⟩,⟨x.l,x.v,x.b,x.w,x.D,x.r,x.I⟩,⟨⟨0,0,0⟩,0,0,0,0,0,[]⟩,⟨0,0⟩,⟨⟨0,0,0⟩,0,0,0⟩,[],0,0⟩:=
 ok_of (W:=1) (by decide) (λp hp=>by
  simp only[zX,slotsC]at hp;rcases hp with rfl|rfl|rfl|rfl|rfl|rfl|rfl
  .exact okN h1
  .exact okN h2
  .exact okN h3
  .exact okN h4
  .exact okN h5
  .exact okL (by show x.r.length<=300;omega) h6
  .exact okL (by show x.I.length<=300;omega) h7) (by simp only[zK,copyS,slotsC,blankS,zOp,zdL,List.foldl_nil,copy1,putN,putL,getN,getL,if_true])
def ok_mark{e:zak}(h:EvF e):OkO ⟨2,⟨0,0,0⟩,⟨0,0,0,0,0,[],[]⟩,⟨⟨e.c.p,e.c.n,e.c.S⟩,e.k,e.g,e.G,e.q,e.E,e.r⟩,⟨0,0⟩,⟨⟨0,0,0⟩,0,0,0⟩,[],0,0⟩:=by
 have hk:=h.kind;have hm:=h.marker;have hf:=h.few;rw[hk,hm]
 exact ok_of (W:=2) (by decide) (λp hp=>by
  simp only[zX,slotsC]at hp;rcases hp with rfl|rfl|rfl|rfl|rfl|rfl|rfl
  .exact okN h.time
  .exact okN h.source
  .exact okN h.seq
  .exact okN h.script
  .exact okN h.part
  .exact okN h.value
  .exact okL (by show e.r.length<=300;omega) h.pages) rfl
def zKn{a b c m:Int}(ha:Nf a)(hb:Nf b)(hc:Nf c)(hm:Nf m):OkO ⟨2,⟨0,0,0⟩,⟨0,0,0,0,0,[],[]⟩,⟨⟨a,b,c⟩,1,0,0,0,m,[]⟩,⟨0,0⟩,⟨⟨0,0,0⟩,0,0,0⟩,[],0,0⟩:=
 ok_of (W:=3) (by decide) (λp hp=>by
  simp only[zX,slotsC]at hp;rcases hp with rfl|rfl|rfl|rfl
  .exact okN ha
  .exact okN hb
  .exact okN hc
  .exact okN hm) rfl
def ok_special{a b:Int}(ha:Nf a)(hb:Nf b):OkO ⟨3,⟨0,0,0⟩,⟨0,0,0,0,0,[],[]⟩,⟨⟨0,0,0⟩,0,0,0,0,0,[]⟩,⟨a,b⟩,⟨⟨0,0,0⟩,0,0,0⟩,[],0,0⟩:=
 ok_of (W:=5) (by decide) (λp hp=>by
  simp only[zX,slotsC]at hp;rcases hp with rfl|rfl
  .exact okN ha
  .exact okN hb) rfl
def ok_review{a b c m:Int}(ha:Nf a)(hb:Nf b)(hc:Nf c)(hm:Nf m):OkO ⟨4,⟨0,0,0⟩,⟨0,0,0,0,0,[],[]⟩,⟨⟨0,0,0⟩,0,0,0,0,0,[]⟩,⟨0,0⟩,⟨⟨a,b,c⟩,0,m,0⟩,[],0,0⟩:=
 ok_of (W:=6) (by decide) (λp hp=>by
  simp only[zX,slotsC]at hp;rcases hp with rfl|rfl|rfl|rfl
  .exact okN ha
  .exact okN hb
  .exact okN hc
  .exact okN hm) rfl
def ok_remark{a b c m:Int}(ha:Nf a)(hb:Nf b)(hc:Nf c)(hm:Nf m):OkO ⟨4,⟨0,0,0⟩,⟨0,0,0,0,0,[],[]⟩,⟨⟨0,0,0⟩,0,0,0,0,0,[]⟩,⟨0,0⟩,⟨⟨a,b,c⟩,1,0,m⟩,[],0,0⟩:=
 ok_of (W:=7) (by decide) (λp hp=>by
  simp only[zX,slotsC]at hp;rcases hp with rfl|rfl|rfl|rfl
  .exact okN ha
  .exact okN hb
  .exact okN hc
  .exact okN hm) rfl
def ok_bounds{l:aQ}{t:Int}(hl:l.length<=300)(h:∀n∈l,Nf n)(ht:Nf t):OkO ⟨5,⟨0,0,0⟩,⟨0,0,0,0,0,[],[]⟩,⟨⟨0,0,0⟩,0,0,0,0,0,[]⟩,⟨0,0⟩,⟨⟨0,0,0⟩,0,0,0⟩,l,t,0⟩:=
 ok_of (W:=8) (by decide) (λp hp=>by
  simp only[zX,slotsC]at hp;rcases hp with rfl|rfl
  .exact okN ht
  .exact okL hl h) rfl
def ok_time{k t:Int}(hk:k=6\/k=7)(ht:Nf t):OkO ⟨k,⟨0,0,0⟩,⟨0,0,0,0,0,[],[]⟩,⟨⟨0,0,0⟩,0,0,0,0,0,[]⟩,⟨0,0⟩,⟨⟨0,0,0⟩,0,0,0⟩,[],t,0⟩:=by
 rcases hk with rfl|rfl
 .exact ok_of (W:=9) (by decide) (λp hp=>by
    simp only[zX,slotsC]at hp;subst hp
    exact okN ht) rfl
 .exact ok_of (W:=10) (by decide) (λp hp=>by
    simp only[zX,slotsC]at hp;subst hp
    exact okN ht) rfl
def ok_revoke{t n:Int}(ht:Nf t)(hn:Nf n):OkO ⟨8,⟨0,0,0⟩,⟨0,0,0,0,0,[],[]⟩,⟨⟨0,0,0⟩,0,0,0,0,0,[]⟩,⟨0,0⟩,⟨⟨0,0,0⟩,0,0,0⟩,[],t,n⟩:=
 ok_of (W:=11) (by decide) (λp hp=>by
  simp only[zX,slotsC]at hp;rcases hp with rfl|rfl
  .exact okN ht
  .exact okN hn) rfl
def zJI(d:zag)(hd:DOk d):∃(r:zb4) (d':zag),cw 19 [.loc 1000 2 0 0] (mD d)=some (zlE (r,d'))/\DOk d':=by obtain⟨n0,d0,e0,_,hd0⟩:=zq3 d [1000,100,0] hd (by simp) (by simp);obtain⟨n1,d1,e1,_,_,hd1⟩:=zcO d0 2 hd0 (by omega);obtain⟨n2,d2,e2,_,_,hd2⟩:=zcO d1 3 hd1 (by omega);refine⟨⟨n0,w64 (1+n1),n2⟩,d2,zxc ?_,hd2⟩;simp only[e0,e1,e2,zaY,zaY];rfl
def c_Curve(d:zag)(hd:DOk d):∃(c:zeT) (d':zag),cw 22 [.loc 1000 2 0 0] (mD d)=some (zlV (c,d'))/\c.xi.length<=10/\DOk d':=by
 have loop:∀(n:Nat) (pts:List zdv) (d:zag) (a b:Int),n<=5->pts.length+n<=10->DOk d->∃(c:zeT) (d':zag),zkm (mQ pts) d a b (n:Nat)=some (zlV (c,d'))/\c.xi.length<=10/\DOk d':=by
  intro n
  induction n with
  |zero=>intro pts d a b _ h hd;refine⟨⟨pts⟩,d,zr9 ?_,by show pts.length<=10;omega,hd⟩;rw[zaC (by omega),cPQ,zbn];rfl
  |succ n ih=>intro pts d a b hn h hd;obtain⟨n1,d1,e1,_,_,hd1⟩:=zcO d 3 hd (by omega);obtain⟨n2,d2,e2,_,_,hd2⟩:=zcO d1 4 hd1 (by omega);obtain⟨c,d',e3,hcl,hd'⟩:=ih (pts++[⟨⟨w64 (w64 (a+1)+n1),1⟩,⟨w64 (w64 (b+1)+n2),1⟩⟩]) d2 (w64 (w64 (a+1)+n1)) (w64 (w64 (b+1)+n2)) (by omega) (by simp;omega) hd2;refine⟨c,d',zr9 ?_,hcl,hd'⟩;rw[zaz (by omega),e1,zaY];simp only;rw[e2,zaY,zbg,zam (by rw[zab];omega),w6Q (n:=((n+1:Nat):Int)-1),show((n+1:Nat):Int)-1=(n:Nat)by omega];simp only[zbW zdu];exact e3
 obtain⟨n0,d0,e0,_,_,hd0⟩:=zcO d 9 hd (by omega);obtain⟨n1,d1,e1,_,_,hd1⟩:=zcO d0 9 hd0 (by omega);obtain⟨n2,d2,e2,a2,b2,hd2⟩:=zcO d1 4 hd1 (by omega);obtain⟨c,d',e3,hcl,hd'⟩:=loop (n2.toNat+1) [⟨⟨w64 (n0-4),1⟩,⟨w64 (n1-4),1⟩⟩] d2 (w64 (n0-4)) (w64 (n1-4)) (by omega) (by simp;omega) hd2;refine⟨c,d',zB8 ?_,hcl,hd'⟩;simp only[e0,e1,e2,zaY];rw[w6Q (n:=1+n2),show(1+n2:Int)=((n2.toNat+1:Nat):Int)by omega];exact e3
def c_Bounds(d:zag)(m:Int)(hd:DOk d)(hm:0<=m/\m<=1000):∃(l:aQ) (d':zag),cw 51 [.loc 1000 2 0 0,I m] (mD d)=some (zlk (l,d'))/\l.length<=10/\(∀n∈l,Nf n)/\DOk d':=by
 have loop:∀(n:Nat) (l:aQ) (d:zag) (b:Int),n<=5->l.length+n<=10->0<=b/\b<=1001->(∀n∈l,Nf n)->DOk d->∃(l':aQ) (d':zag),zjE (List.map zaj l) d b (n:Nat)=some (zlk (l',d'))/\l'.length<=10/\(∀n∈l',Nf n)/\DOk d':=by
  intro n
  induction n with
  |zero=>intro l d b _ h hb hl hd;refine⟨l,d,zrN ?_,by omega,hl,hd⟩;rw[zaC (by omega),zam rfl];rfl
  |succ n ih =>
    intro l d b hn h hb hl hd;have ht:b.tdiv 2=b / 2:=zfl hb.1;obtain⟨n1,d1,e1,a1,b1,hd1⟩:=zcO d (b / 2+1) hd (by omega)
    obtain⟨l',d',e3,g1,g2,hd'⟩:=ih (l++[b-n1]) d1 (b-n1) (by omega) (by simp;omega) (by omega) (λx hx=>by
     rcases zaX.1 hx with hx|hx
     .exact hl x hx
     .rw[zbs.1 hx];unfold Nf;omega) hd1
    refine⟨l',d',zrN ?_,g1,g2,hd'⟩;rw[zaz (by omega),zam (by decide),ht,w6Q (n:=b / 2),w6Q (n:=b / 2+1),e1,zaY];simp only;rw[zbg,zam (by rw[zab];omega),zbg,w6Q (n:=((n+1:Nat):Int)-1),show((n+1:Nat):Int)-1=(n:Nat)by omega,w6Q (n:=b-n1)];simp only[zbW zaj];exact e3
 obtain⟨n0,d0,e0,a0,b0,hd0⟩:=zcO d 4 hd (by omega);obtain⟨l,d',e3,g1,g2,hd'⟩:=loop (n0.toNat+1) [] d0 (m+1) (by omega) (by simp;omega) (by omega) (by simp) hd0;refine⟨l,d',zAH ?_,g1,g2,hd'⟩;simp only[e0,zaY];rw[w6Q (n:=m+1),w6Q (n:=1+n0),show(1+n0:Int)=((n0.toNat+1:Nat):Int)by omega];exact e3
def c_Award(d:zag)(n:Nat)(hd:DOk d)(hn:n<=10):∃(a:zcf) (d':zag),cw 23 [.loc 1000 2 0 0,I (n:Nat)] (mD d)=some (zlU (a,d'))/\((0<=a.N/\a.N<=100)/\a.Q.length<=10/\a.W.length<=10)/\DOk d':=by
 obtain⟨n0,d0,e0,a0,hd0⟩:=zq3 d [100,20,60] hd (by simp) (by simp)
 have hm:0<=n0/\n0<=100:=by simp only[zX]at a0;omega
 have loop:∀(m i:Nat) (us:List GUnit) (d:zag),i+m=n->us.length=i->DOk d->∃(a:zcf) (d':zag),zkl (n:Nat) (n0,d0) (mW us) d (i:Nat)=some (zlU (a,d'))/\((0<=a.N/\a.N<=100)/\a.Q.length<=10/\a.W.length<=10)/\DOk d':=by
  intro m
  induction m with
  |zero=>intro i us d hi hu hd;obtain⟨l,d1,e1,g1,g2,hd1⟩:=c_Bounds d n0 hd (by omega);refine⟨⟨us,l,n0⟩,d1,zr8 ?_,⟨hm,by show us.length<=10;omega,g1⟩,hd1⟩;rw[zaC (by omega)];simp only;rw[e1,zpw,cPQ,cPQ,zbn];simp only[zbn];rfl
  |succ m ih=>intro i us d hi hu hd;obtain⟨n1,d1,e1,_,hd1⟩:=zq3 d [1,2,60,40] hd (by simp) (by simp);obtain⟨n2,d2,e2,_,hd2⟩:=zq3 d1 [10,12,50] hd1 (by simp) (by simp);obtain⟨a,d',e3,g1,hd'⟩:=ih (i+1) (us++[⟨(i:Nat),n1,n2⟩]) d2 (by omega) (by simp;omega) hd2;refine⟨a,d',zr8 ?_,g1,hd'⟩;rw[zaz (by omega),e1,zaY];simp only;rw[e2,zaY,zbg,zam (by rw[zab];omega),w6Q,show((i:Nat):Int)+1=((i+1:Nat):Int)by omega];simp only[zbW zey];exact e3
 obtain⟨a,d',e3,g1,hd'⟩:=loop n 0 [] d0 (by omega) rfl hd0;refine⟨a,d',zB7 ?_,g1,hd'⟩;simp only[e0,zaY];exact e3
def c_SeedP(d:zag)(ps:List zaQ)(x:zaK)(hd:DOk d)(hps:zlZ ps):∃(y:GSeed) (d':zag),cw 24 [.loc 1000 2 0 0,.sl 3 (mH ps),.agg (zaA x)] (mD d)=some (zmN (y,d'))/\y.xc.length<=3/\DOk d':=by
 have hl:=hps.2.1
 obtain⟨q,hq,hql,hqm⟩:∃q,((zfu ps x).map (·.2)).getD zyn=q/\q.d.length<=3/\∀y∈q.d,0<=y.N/\y.N<=100:=by
  refine⟨_,rfl,?_⟩
  cases hx:zfu ps x with
  |none=>exact⟨by decide,by intro y hy;cases hy⟩
  |some k=>obtain⟨k,p⟩:=k;have hp:=(hps.2.2.1 p (zau (zfV hx).1)).1;exact⟨hp.1,λy hy=>by have:=hp.2.2 y hy;have:=this.1.1;omega⟩
 have loop:∀(m i:Nat) (a:aQ) (d:zag),i+m=q.d.length->a.length=i->DOk d->∃(y:GSeed) (d':zag),zk1 x q (List.map zaj a) d (i:Nat)=some (zmN (y,d'))/\y.xc.length<=3/\DOk d':=by
  intro m
  induction m with
  |zero=>intro i a d hi ha hd;refine⟨⟨x.l,a⟩,d,ztm ?_,by show a.length<=3;omega,hd⟩;rw[zaC (by rw[zab];omega),cPQ,zbn];rfl
  |succ m ih =>
    intro i a d hi ha hd;have hlt:i<q.d.length:=by omega
    have hmx:=hqm _ (zaq hlt);obtain⟨n1,d1,e1,_,_,hd1⟩:=zcO d (q.d[i].N+1) hd (by omega);obtain⟨y,d',e3,hy,hd'⟩:=ih (i+1) (a++[n1]) d1 (by omega) (by simp;omega) hd1;refine⟨y,d',ztm ?_,hy,hd'⟩;rw[zaz (by rw[zab];omega),cPQ,zfj,show((i:Nat):Int).toNat=i from rfl,zaa hlt,zad,w6Q (n:=q.d[i].N+1),e1,zaY,zam rfl,zam (by rw[zab];omega),w6Q,show((i:Nat):Int)+1=((i+1:Nat):Int)by omega];simp only[zbW zaj];exact e3
 obtain⟨y,d',e3,hy,hd'⟩:=loop q.d.length 0 [] d (by omega) rfl hd;refine⟨y,d',zDD ?_,hy,hd'⟩;rw[zyp ps x (by omega),zmA,hq];exact e3
structure DRules(r:zbF):Prop where
 papers:zlZ r.h
 markers:zyf r.u
 max:(0<=r.xm.N/\r.xm.N<=100)/\r.xm.Q.length<=10/\r.xm.W.length<=10
 sch:r.H.length=r.h.length/\zs1 r.h r.H
 cur:r.xk.length=r.h.length/\∀c∈r.xk,c.xi.length<=10
 seeds:r.B.length<=1/\∀x∈r.B,x.xc.length<=3
 mon:OkMon r.O
 secret:1<=r.xA/\r.xA<=1000000
def c_Rules(d:zag)(hd:DOk d):∃(r:zbF) (d':zag),cw 7 [.loc 1000 2 0 0] (mD d)=some (zjx (r,d'))/\DRules r/\DOk d':=by
 obtain⟨ps,cs,d0,e0,hps,hcl,hcs,hd0⟩:=c_Papers d hd;obtain⟨ms,d1,e1,hms,hd1⟩:=c_Markers d0 hd0;obtain⟨mo,d2,e2,hmo,hd2⟩:=c_Monitor d1 hd1;obtain⟨ru,d3,e3,_,_,hd3⟩:=c_Rule d2 hd2;obtain⟨ar,d4,e4,hd4⟩:=zJI d3 hd3;obtain⟨n5,d5,e5,a5,b5,hd5⟩:=zcO d4 1000000 hd4 (by omega);have hpl:=hps.2.1
 have last:∀(cv:List zeT) (d:zag) (n i:Nat),n<=10->i=ps.length->cv.length=i->(∀c∈cv,c.xi.length<=10)->DOk d->∃(r:zbF) (d':zag),zgN ((ps,cs),d0) (ms,d1) (mo,d2) (ru,d3) (ar,d4) (n5,d5) (sB cv) d (n:Nat) (i:Nat)=some (zjx (r,d'))/\DRules r/\DOk d':=by
  intro cv d n i hn hi hcvl hcv hd;have hsec:w64 (1+n5)=1+n5:=w64_id (by omega) (by omega);obtain⟨aw,d6,e6,g6,hd6⟩:=c_Award d n hd hn;obtain⟨b,d7,e7,hd7⟩:=zof d6 2 hd6 (by omega)
  cases b with
  |true=>obtain⟨sd,d8,e8,hsd,hd8⟩:=c_SeedP d7 ps ⟨1,0,1,0,0,[],[]⟩ hd7 hps;refine⟨⟨ms,ps,[sd],mo,ru,cs,cv,aw,ar,w64 (1+n5)⟩,d8,zkx ?_,⟨hps,hms,g6,⟨hcl,hcs⟩,⟨by show cv.length=ps.length;omega,hcv⟩,⟨by simp,λx hx=>by rw[zbs.1 hx];exact hsd⟩,hmo,by show 1<=w64 (1+n5)/\w64 (1+n5)<=1000000;rw[hsec];omega⟩,hd8⟩;rw[zaC (by rw[zab];dsimp only;omega),e6,zqH];simp only;rw[e7,zcD,zaM];simp only;rw[e8,zyv];refine zxs ?_;rw[cPQ,cPQ];simp only[zbn];rfl
  |false=>refine⟨⟨ms,ps,[],mo,ru,cs,cv,aw,ar,w64 (1+n5)⟩,d7,zkx ?_,⟨hps,hms,g6,⟨hcl,hcs⟩,⟨by show cv.length=ps.length;omega,hcv⟩,⟨by simp,by simp⟩,hmo,by show 1<=w64 (1+n5)/\w64 (1+n5)<=1000000;rw[hsec];omega⟩,hd7⟩;rw[zaC (by rw[zab];dsimp only;omega),e6,zqH];simp only;rw[e7,zcD,zaB];refine zvH ?_;rw[cPQ,cPQ];simp only[zbn];rfl
 have loop:∀(m i:Nat) (cv:List zeT) (d:zag) (n:Nat),i+m=ps.length->cv.length=i->(∀c∈cv,c.xi.length<=10)->n<=10->DOk d->∃(r:zbF) (d':zag),zgN ((ps,cs),d0) (ms,d1) (mo,d2) (ru,d3) (ar,d4) (n5,d5) (sB cv) d (n:Nat) (i:Nat)=some (zjx (r,d'))/\DRules r/\DOk d':=by
  intro m
  induction m with
  |zero=>intro i cv d n hi hc hcv hn hd;exact last cv d n i hn (by omega) hc hcv hd
  |succ m ih =>
    intro i cv d n hi hc hcv hn hd;have hlt:i<ps.length:=by omega
    have hcode:=(hps.2.2.1 _ (zaq hlt)).2.1
    obtain⟨n',hn',en⟩:∃n':Nat,n'<=10/\(if w64 (ps[i].V+1) > (n:Int)then w64 (ps[i].V+1)else(n:Int))=(n':Nat):=by
     rw[w6Q];split
     .exact⟨(ps[i].V+1).toNat,by omega,by omega⟩
     .exact⟨n,hn,rfl⟩
    obtain⟨b,d6,e6,hd6⟩:=zof d 4 hd (by omega)
    cases b with
    |true =>
      obtain⟨c,d7,e7,hcp,hd7⟩:=c_Curve d6 hd6
      obtain⟨r,d',e8,h8,hd'⟩:=ih (i+1) (cv++[c]) d7 n' (by omega) (by simp;omega) (λx hx=>by
       rcases zaX.1 hx with hx|hx
       .exact hcv x hx
       .rw[zbs.1 hx];exact hcp) hn' hd7
      refine⟨r,d',zkx ?_,h8,hd'⟩;rw[zaz (by rw[zab];dsimp only;omega),cPQ,zdF,show((i:Nat):Int).toNat=i from rfl];simp only;rw[zaa hlt,zad,e6,zcD,zaM];simp only;rw[e7,zxK,zbg,zam (by rw[zab];omega),en,w6Q (n:=((i:Nat):Int)+1),show((i:Nat):Int)+1=((i+1:Nat):Int)by omega];simp only[zbW zft];exact e8
    |false =>
      obtain⟨r,d',e8,h8,hd'⟩:=ih (i+1) (cv++[⟨[]⟩]) d6 n' (by omega) (by simp;omega) (λx hx=>by
       rcases zaX.1 hx with hx|hx
       .exact hcv x hx
       .rw[zbs.1 hx];decide) hn' hd6
      refine⟨r,d',zkx ?_,h8,hd'⟩;rw[zaz (by rw[zab];dsimp only;omega),cPQ,zdF,show((i:Nat):Int).toNat=i from rfl];simp only;rw[zaa hlt,zad,e6,zcD,zaB,zbg,zam (by rw[zab];omega),en,w6Q (n:=((i:Nat):Int)+1),show((i:Nat):Int)+1=((i+1:Nat):Int)by omega];simp only[zbW zft];exact e8
 obtain⟨r,d',e8,h8,hd'⟩:=loop ps.length 0 [] d5 1 (by omega) rfl (by simp) (by decide) hd5;refine⟨r,d',zB9 ?_,h8,hd'⟩;rw[e0,zw6];simp only;rw[e1,zvW];simp only;rw[e2,zvX];simp only;rw[e3,zyu];simp only;rw[e4,ztF];simp only;rw[e5,zaY];exact e8
end Go.Proofs.YtcpnffbcljkbkaaGreatDoor
namespace Go.Proofs.YtcpnffbcljkbkaaGreatDoor
open Go.Ab Go.Str
set_option maxRecDepth 100000
def zGx{ms:List zbA}(h:zyf ms){i:Nat}(hi:i<ms.length):Nf ms[i].ID:=by have:=h.2.2.2.2 _ (zaq hi);have:=(h.2.2.1.2.1 _ (zaq hi)).1.1;unfold Nf;omega
def c_one(d:zag)(r:zbF)(sc:ab)(i:Int)(hd:DOk d)(hr:DRules r)(hs:zqf 4 r.h sc)(hi:0<=i/\i<=100):∃(o:GOp) (d':zag),cw 33 [.loc 1000 2 0 0,.agg (zbz r),.sl 7 (mC sc),I i] (mD d)=some (zhE (o,d'))/\OkO o/\DOk d':=by
 obtain⟨n0,d0,e0,a0,b0,hd0⟩:=zcO d 16 hd (by omega);have hpl:=hr.papers.2.1;have hp1:=hr.papers.1;have hml:=hr.markers.2.1;have hm1:=hr.markers.1;have z0:Nf 0:=⟨by decide,by decide⟩
 have hi0:Nf i:=by unfold Nf;omega
 have fin:∀{y:AV×Mem} {o:GOp} {d':zag},y=zhE (o,d')->OkO o->DOk d'->Sat (λy=>∃(o:GOp) (d':zag),y=zhE (o,d')/\OkO o/\DOk d') (some y):=λh1 h2 h3=>za1 ⟨_,_,h1,h2,h3⟩
 suffices h:Sat (λy=>∃(o:GOp) (d':zag),y=zhE (o,d')/\OkO o/\DOk d') (cw 33 [.loc 1000 2 0 0,.agg (zbz r),.sl 7 (mC sc),I i] (mD d))by obtain⟨y,e,o,d',rfl,h⟩:=h;exact⟨o,d',e,h⟩
 refine sat_of (λy=>zEK) ?_;rw[e0,zaY];simp only;by_cases k0:n0=0
 .rw[show(n0==0)=true from beq_iff_eq.2 k0,zaM];obtain⟨n1,d1,e1,a1,b1,hd1⟩:=zcO d0 4 hd0 (by omega);obtain⟨n2,d2,e2,a2,hd2⟩:=zq3 d1 [0,20,50] hd1 (by simp) (by simp);rw[e1,zaY];simp only;rw[e2,zaY,w6Q];refine fin (o:=⟨3,⟨0,0,0⟩,⟨0,0,0,0,0,[],[]⟩,⟨⟨0,0,0⟩,0,0,0,0,0,[]⟩,⟨1+n1,n2⟩,⟨⟨0,0,0⟩,0,0,0⟩,[],0,0⟩) (d':=d2) rfl (ok_special (by unfold Nf;omega) ?_) hd2;simp only[zX]at a2;unfold Nf;omega
 rw[show(n0==0)=false from beq_eq_false_iff_ne.2 k0,zaB];by_cases k1:n0=1
 .rw[show(n0==1)=true from beq_iff_eq.2 k1,zaM];obtain⟨n1,d1,e1,a1,b1,hd1⟩:=zcO d0 5 hd0 (by omega);obtain⟨l,d2,e2,g1,g2,hd2⟩:=c_Bounds d1 r.xm.N hd1 (by have:=hr.max.1;omega);rw[e1,zaY];simp only;rw[e2,zpw,cPQ];simp only[zbn];exact fin (o:=⟨5,⟨0,0,0⟩,⟨0,0,0,0,0,[],[]⟩,⟨⟨0,0,0⟩,0,0,0,0,0,[]⟩,⟨0,0⟩,⟨⟨0,0,0⟩,0,0,0⟩,l,n1,0⟩) (d':=d2) rfl (ok_bounds (by omega) g2 (by unfold Nf;omega)) hd2
 rw[show(n0==1)=false from beq_eq_false_iff_ne.2 k1,zaB];by_cases k2:n0=2
 . rw[show(n0==2)=true from beq_iff_eq.2 k2,zaM];obtain⟨n1,d1,e1,a1,b1,hd1⟩:=zcO d0 150 hd0 (by omega);obtain⟨n2,d2,e2,a2,b2,hd2⟩:=zcO d1 3 hd1 (by omega);obtain⟨n3,d3,e3,a3,b3,hd3⟩:=zcO d2 4 hd2 (by omega);obtain⟨b,d4,e4,hd4⟩:=zof d3 4 hd3 (by omega);rw[e1,zaY];simp only;rw[e2,zaY];simp only;rw[e3,zaY];simp only;rw[e4,zcD,w6Q (n:=20+n1),w6Q (n:=1+n2),w6Q (n:=1+n3)]
   cases b with
   |true =>
     obtain⟨n5,d5,e5,a5,b5,hd5⟩:=zcO d4 r.u.length hd4 (by omega);have hlt:n5.toNat<r.u.length:=by omega
     rw[zaM,zab];simp only;rw[e5,zaY,zam a5];simp only;rw[zfB,zaa hlt,zad];exact fin (o:=⟨4,⟨0,0,0⟩,⟨0,0,0,0,0,[],[]⟩,⟨⟨0,0,0⟩,0,0,0,0,0,[]⟩,⟨0,0⟩,⟨⟨20+n1,1+n2,i⟩,1,0,r.u[n5.toNat].ID⟩,[],0,0⟩) (d':=d5) rfl (ok_remark (by unfold Nf;omega) (by unfold Nf;omega) hi0 (zGx hr.markers hlt)) hd5
   |false=>rw[zaB];exact fin (o:=⟨4,⟨0,0,0⟩,⟨0,0,0,0,0,[],[]⟩,⟨⟨0,0,0⟩,0,0,0,0,0,[]⟩,⟨0,0⟩,⟨⟨20+n1,1+n2,i⟩,0,1+n3,0⟩,[],0,0⟩) (d':=d4) rfl (ok_review (by unfold Nf;omega) (by unfold Nf;omega) hi0 (by unfold Nf;omega)) hd4
 rw[show(n0==2)=false from beq_eq_false_iff_ne.2 k2,zaB];by_cases k3:n0=3
 . rw[show(n0==3)=true from beq_iff_eq.2 k3,zaM];obtain⟨n5,d5,e5,a5,b5,hd5⟩:=zcO d0 r.u.length hd0 (by omega);have hlt:n5.toNat<r.u.length:=by omega
   rw[zab,e5,zaY,zam a5];simp only;rw[zfB,zaa hlt,zad,w6Q];exact fin (o:=⟨2,⟨0,0,0⟩,⟨0,0,0,0,0,[],[]⟩,⟨⟨4*i,0,i⟩,1,0,0,0,r.u[n5.toNat].ID,[]⟩,⟨0,0⟩,⟨⟨0,0,0⟩,0,0,0⟩,[],0,0⟩) (d':=d5) rfl (zKn (by unfold Nf;omega) z0 hi0 (zGx hr.markers hlt)) hd5
 rw[show(n0==3)=false from beq_eq_false_iff_ne.2 k3,zaB]
 have ent:Sat (λy=>∃(o:GOp) (d':zag),y=zhE (o,d')/\OkO o/\DOk d') (callD zaH (cw 20 [.loc 1000 2 0 0,I 5] (mD d0)) λr15 =>
   callD zaH (cw 20 [.loc 1000 2 0 0,I 3] (mD r15.2)) λr16 =>
   callD zaH (cw 20 [.loc 1000 2 0 0,I ((mH r.h).length:Int)] (mD r16.2)) λr17 =>
   chk (0<=r17.1)<|
   elemD zcS (mH r.h) (Int.toNat r17.1) λc18 =>
   some (.agg (nGOp (⟨0,⟨w64 (1+r15.1),w64 (1+r16.1),c18.V⟩,⟨0,0,0,0,0,[],[]⟩,⟨⟨0,0,0⟩,0,0,0,0,0,[]⟩,⟨0,0⟩,⟨⟨0,0,0⟩,0,0,0⟩,[],0,0⟩)),mD r17.2)):=by
  obtain⟨n1,d1,e1,a1,b1,hd1⟩:=zcO d0 5 hd0 (by omega);obtain⟨n2,d2,e2,a2,b2,hd2⟩:=zcO d1 3 hd1 (by omega);obtain⟨n3,d3,e3,a3,b3,hd3⟩:=zcO d2 r.h.length hd2 (by omega);have hlt:n3.toNat<r.h.length:=by omega
  have hcode:=(hr.papers.2.2.1 _ (zaq hlt)).2.1;rw[e1,zaY,zab];simp only;rw[e2,zaY];simp only;rw[e3,zaY,zam a3];simp only;rw[zdF,zaa hlt,zad,w6Q (n:=1+n1),w6Q (n:=1+n2)];exact fin (o:=⟨0,⟨1+n1,1+n2,r.h[n3.toNat].V⟩,⟨0,0,0,0,0,[],[]⟩,⟨⟨0,0,0⟩,0,0,0,0,0,[]⟩,⟨0,0⟩,⟨⟨0,0,0⟩,0,0,0⟩,[],0,0⟩) (d':=d3) rfl (zvy (by unfold Nf;omega) (by unfold Nf;omega) (by unfold Nf;omega)) hd3
 by_cases k4:n0=4
 .rw[show(n0==4)=true from beq_iff_eq.2 k4,zaM];exact sat_of (λy=>zyV) ent
 rw[show(n0==4)=false from beq_eq_false_iff_ne.2 k4,zaB];by_cases k5:n0=5
 .rw[show(n0==5)=true from beq_iff_eq.2 k5,zaM];exact sat_of (λy=>zxt) ent
 rw[show(n0==5)=false from beq_eq_false_iff_ne.2 k5,zaB];by_cases hz:sc.length=0
 .rw[show(((mC sc).length:Int)==0)=true from by rw[beq_iff_eq,zab];omega,zaM];exact fin (o:=⟨0,⟨9,1,0⟩,⟨0,0,0,0,0,[],[]⟩,⟨⟨0,0,0⟩,0,0,0,0,0,[]⟩,⟨0,0⟩,⟨⟨0,0,0⟩,0,0,0⟩,[],0,0⟩) (d':=d0) rfl (zvy ⟨by decide,by decide⟩ ⟨by decide,by decide⟩ z0) hd0
 rw[show(((mC sc).length:Int)==0)=false from by rw[beq_eq_false_iff_ne,zab];omega,zaB];obtain⟨n1,d1,e1,a1,b1,hd1⟩:=zcO d0 9 hd0 (by omega);rw[e1,zaY,w6Q (n:=4*i)];simp only;rw[w6Q (n:=4*i+n1)];obtain⟨e,d2,e2,he,hd2⟩:=c_Mark d1 ⟨r.u,sc,r.h,r.H,[],⟨0,0,0,0⟩⟩ i (4*i+n1) hd1 ⟨hr.papers,hr.markers,hs⟩ hi0 (by unfold Nf;omega);rw[e2,zyt];exact fin (o:=⟨2,⟨0,0,0⟩,⟨0,0,0,0,0,[],[]⟩,⟨⟨e.c.p,e.c.n,e.c.S⟩,e.k,e.g,e.G,e.q,e.E,e.r⟩,⟨0,0⟩,⟨⟨0,0,0⟩,0,0,0⟩,[],0,0⟩) (d':=d2) rfl (ok_mark he) hd2
def OkOps(l:aU):Prop:=∀o∈l,OkO o
def OkOps.snoc{l:aU}{o:GOp}(h:OkOps l)(ho:OkO o):OkOps (l++[o]):=λx hx=>by
 rcases zaX.1 hx with hx|hx
 .exact h x hx
 .rw[zbs.1 hx];exact ho
def c_Ops(d:zag)(r:zbF)(n:Nat)(hd:DOk d)(hr:DRules r)(hn:n<=20):∃(l:aU) (d':zag),cw 9 [.loc 1000 2 0 0,.agg (zbz r),I (n:Nat)] (mD d)=some (zn1 (l,d'))/\OkOps l/\l.length<=100/\DOk d':=by
 let Q:AV×Mem->Prop:=λy=>∃(l:aU) (d':zag),y=zn1 (l,d')/\OkOps l/\l.length<=100/\DOk d'
 suffices h:Sat Q (cw 9 [.loc 1000 2 0 0,.agg (zbz r),I (n:Nat)] (mD d))by obtain⟨y,e,o,d',rfl,h⟩:=h;exact⟨o,d',e,h⟩
 obtain⟨sc,ds,es,hsc,hds⟩:=c_Scripts d r.h 3 hd hr.papers (by omega);have hsc4:zqf 4 r.h sc:=zKw (by omega) hsc;have hsl:=hsc.2.2
 have hsnf:∀x∈sc,Nf x.l/\Nf x.v/\Nf x.b/\Nf x.w/\Nf x.D/\(∀y∈x.r,Nf y)/\(∀y∈x.I,Nf y)/\x.r.length=2/\x.I.length<=3:=λx hx=>by obtain⟨p,hp,h⟩:=hsc.1 x hx;exact zA9 (by omega) hr.papers hp h
 have body:∀(i:Nat) (out:aU) (d:zag) (next next2:List (List AV)->zag->Int->Option (AV×Mem)),i<n->OkOps out->out.length<=40+i->DOk d->(∀(out:aU) (d:zag),OkOps out->out.length<=40+(i+1)->DOk d->Sat Q (next (mE out) d ((i+1:Nat):Int)))->(∀(out:aU) (d:zag),OkOps out->out.length<=40+(i+1)->DOk d->Sat Q (next2 (mE out) d ((i+1:Nat):Int)))->Sat Q (callD zaH (cw 20 [.loc 1000 2 0 0,I 9] (mD d)) λr27 =>
    brn (r27.1==0) (next (mE out++[nGOp ⟨6,⟨0,0,0⟩,⟨0,0,0,0,0,[],[]⟩,⟨⟨0,0,0⟩,0,0,0,0,0,[]⟩,⟨0,0⟩,⟨⟨0,0,0⟩,0,0,0⟩,[],w64 (20+w64 (2*(i:Nat))),0⟩]) r27.2 (w64 ((i:Nat)+1)))
    (brn (r27.1==1) (next (mE out++[nGOp ⟨7,⟨0,0,0⟩,⟨0,0,0,0,0,[],[]⟩,⟨⟨0,0,0⟩,0,0,0,0,0,[]⟩,⟨0,0⟩,⟨⟨0,0,0⟩,0,0,0⟩,[],w64 (20+w64 (2*(i:Nat))),0⟩]) r27.2 (w64 ((i:Nat)+1)))
    (brn (r27.1==2) (callD zdn (cw 21 [.loc 1000 2 0 0,I 3] (mD r27.2)) λr28 =>
     brn r28.1 (callD zaH (cw 20 [.loc 1000 2 0 0,I 4] (mD r28.2)) λr29=>next (mE out++[nGOp ⟨8,⟨0,0,0⟩,⟨0,0,0,0,0,[],[]⟩,⟨⟨0,0,0⟩,0,0,0,0,0,[]⟩,⟨0,0⟩,⟨⟨0,0,0⟩,0,0,0⟩,[],w64 (20+w64 (2*(i:Nat))),w64 (1+r29.1)⟩]) r29.2 (w64 ((i:Nat)+1)))
     (next (mE out) r28.2 (w64 ((i:Nat)+1))))
    (callD zjj (cw 33 [.loc 1000 2 0 0,.agg (zbz r),.sl 7 (mC sc),I (i:Nat)] (mD r27.2)) λr34=>next2 (mE out++[nGOp r34.1]) r34.2 (w64 ((i:Nat)+1)))))):=by
  intro i out d next next2 hi ho hl hd h h'
  obtain⟨n0,d0,e0,a0,b0,hd0⟩:=zcO d 9 hd (by omega);have et:w64 (20+w64 (2*((i:Nat):Int)))=20+2*((i:Nat):Int):=by rw[w6Q (n:=2*((i:Nat):Int)),w6Q]
  have ht:Nf (20+2*((i:Nat):Int)):=by unfold Nf;omega
  rw[e0,zaY];simp only;rw[et,w6Q (n:=((i:Nat):Int)+1),show((i:Nat):Int)+1=((i+1:Nat):Int)by omega];simp only[zbW nGOp];by_cases k0:n0=0
  .rw[show(n0==0)=true from beq_iff_eq.2 k0,zaM];exact h _ d0 (ho.snoc (ok_time (Or.inl rfl) ht)) (by simp;omega) hd0
  rw[show(n0==0)=false from beq_eq_false_iff_ne.2 k0,zaB];by_cases k1:n0=1
  .rw[show(n0==1)=true from beq_iff_eq.2 k1,zaM];exact h _ d0 (ho.snoc (ok_time (Or.inr rfl) ht)) (by simp;omega) hd0
  rw[show(n0==1)=false from beq_eq_false_iff_ne.2 k1,zaB];by_cases k2:n0=2
  . rw[show(n0==2)=true from beq_iff_eq.2 k2,zaM];obtain⟨b,d1,e1,hd1⟩:=zof d0 3 hd0 (by omega);rw[e1,zcD]
    cases b with
    |true=>obtain⟨n2,d2,e2,a2,b2,hd2⟩:=zcO d1 4 hd1 (by omega);rw[zaM];simp only;rw[e2,zaY,w6Q (n:=1+n2)];simp only[zbW nGOp];exact h _ d2 (ho.snoc (ok_revoke ht (by unfold Nf;omega))) (by simp;omega) hd2
    |false=>rw[zaB];exact h _ d1 ho (by omega) hd1
  rw[show(n0==2)=false from beq_eq_false_iff_ne.2 k2,zaB];obtain⟨o,d1,e1,ho1,hd1⟩:=c_one d0 r sc (i:Nat) hd0 hr hsc4 (by omega);rw[e1,zzN];simp only[zbW nGOp];exact h' _ d1 (ho.snoc ho1) (by simp;omega) hd1
 have threeV:∀(m i:Nat) (out:aU) (d:zag),i+m=n->OkOps out->out.length<=40+i->DOk d->Sat Q (zdt r (n:Nat) (sc,ds) (mE out) d (i:Nat)):=by
  intro m
  induction m with
  |zero=>intro i out d hi ho hl hd;refine sat_of (λy=>zsa) ?_;rw[zaC (by omega),zam rfl];exact za1 ⟨out,d,rfl,ho,by omega,hd⟩
  |succ m ih=>intro i out d hi ho hl hd;refine sat_of (λy=>zsa) ?_;rw[zaz (by omega)];simp only[zbn];simp(disch:=omega)only[zI,zam,zbn];exact body i out d (zdt r (n:Nat) (sc,ds)) (zdt r (n:Nat) (sc,ds)) (by omega) ho hl hd (λout d h1 h2 h3=>ih (i+1) out d (by omega) h1 h2 h3) (λout d h1 h2 h3=>ih (i+1) out d (by omega) h1 h2 h3)
 have three:∀(m i:Nat) (out:aU) (d:zag),i+m=n->OkOps out->out.length<=40+i->DOk d->Sat Q (zfK r (n:Nat) (sc,ds) (mE out) d (i:Nat)):=by
  intro m
  induction m with
  |zero=>intro i out d hi ho hl hd;refine sat_of (λy=>zum) ?_;rw[zaC (by omega),zam rfl];exact za1 ⟨out,d,rfl,ho,by omega,hd⟩
  |succ m ih=>intro i out d hi ho hl hd;refine sat_of (λy=>zum) ?_;rw[zaz (by omega)];simp only[zbn];simp(disch:=omega)only[zW,zam,zbn,zav];exact body i out d (zfK r (n:Nat) (sc,ds)) (zdt r (n:Nat) (sc,ds)) (by omega) ho hl hd (λout d h1 h2 h3=>ih (i+1) out d (by omega) h1 h2 h3) (λout d h1 h2 h3=>threeV m (i+1) out d (by omega) h1 h2 h3)
 have two:∀(es:aP) (df:zag),(∀e∈es,EvF e)->es.length<=120->DOk df->∀(m i:Nat) (out:aU),i+m=24->OkOps out->out.length<=12+i->Sat Q (zlK r (n:Nat) (sc,ds) (es,df) (mE out) (i:Nat)):=by
  intro es df hes hel hdf m
  induction m with
  |zero =>
    intro i out hi ho hl;refine sat_of (λy=>zul) ?_;have hv:=threeV n 0 out df (by omega) ho (by omega) hdf;by_cases h1:i<es.length
    .rw[zaz (by rw[zab];dsimp only;omega),zaC (by omega)];exact hv
    .rw[zaC (by rw[zab];dsimp only;omega)];exact hv
  |succ m ih =>
    intro i out hi ho hl;refine sat_of (λy=>zul) ?_;have hv:=threeV n 0 out df (by omega) ho (by omega) hdf;by_cases h1:i<es.length
    .rw[zaz (by rw[zab];dsimp only;omega),zaz (by omega)];have he:=hes _ (zaq h1);simp(disch:=omega)only[zW,zR,zdN,zaa h1,zbW nGOp];exact ih (i+1) _ (by omega) (ho.snoc (ok_mark he)) (by simp;omega)
    .rw[zaC (by rw[zab];dsimp only;omega)];exact hv
 have one:∀(m i:Nat) (out:aU) (d:zag),i+m=sc.length->OkOps out->out.length<=2*i->DOk d->Sat Q (zhL r (n:Nat) (sc,ds) (mE out) d (i:Nat)):=by
  intro m
  induction m with
  |zero =>
    intro i out d hi ho hl hd;refine sat_of (λy=>zuk) ?_;obtain⟨b,d1,e1,hd1⟩:=zof d 2 hd (by omega);rw[zaC (by rw[zab];dsimp only;omega),e1,zcD]
    cases b with
    |true=>obtain⟨es,df,e2,g1,g2,hdf⟩:=c_Full d1 ⟨r.u,sc,r.h,r.H,[],⟨0,0,0,0⟩⟩ 10 hd1 ⟨hr.papers,hr.markers,hsc4⟩ (by omega);rw[zaM];simp only[zbn];simp(disch:=omega)only[zW,zam,zbn,zav];rw[show([bA 1000 2,AV.agg [sK r.u,sL sc,sH r.h,sO r.H,AV.sl 2 [],I 0,I 0,I 0,I 0],I 10]:List AV)=[bA 1000 2,AV.agg (za4 ⟨r.u,sc,r.h,r.H,[],⟨0,0,0,0⟩⟩),I 10]from rfl,e2,zys];exact two es df g2 g1 hdf 24 0 out (by omega) ho (by omega)
    |false=>rw[zaB];exact three n 0 out d1 (by omega) ho (by omega) hd1
  |succ m ih =>
    intro i out d hi ho hl hd;have hlt:i<sc.length:=by omega
    obtain⟨f1,f2,f3,f4,f5,f6,f7,f8,f9⟩:=hsnf _ (zaq hlt);obtain⟨n0,d0,e0,a0,b0,hd0⟩:=zcO d 8 hd (by omega);obtain⟨n1,d1,e1,a1,b1,hd1⟩:=zcO d0 8 hd0 (by omega)
    have back:∀(out:aU) (d:zag),OkOps out->out.length<=2*(i+1)->DOk d->Sat Q (zhL r (n:Nat) (sc,ds) (mE out) d (w64 ((i:Nat)+1))):=λout d h1 h2 h3=>by rw[w6Q,show((i:Nat):Int)+1=((i+1:Nat):Int)by omega];exact ih (i+1) out d (by omega) h1 h2 h3
    refine sat_of (λy=>zuk) ?_;rw[zaz (by rw[zab];dsimp only;omega),e0,zaY];by_cases k0:0<n0
    . rw[zaz k0];simp(disch:=omega)only[zW,zF,zdU,zaa hlt];refine sat_of (λy=>zyU) ?_;have h1:OkOps (out++[⟨0,⟨sc[i].b,sc[i].w,sc[i].v⟩,⟨0,0,0,0,0,[],[]⟩,⟨⟨0,0,0⟩,0,0,0,0,0,[]⟩,⟨0,0⟩,⟨⟨0,0,0⟩,0,0,0⟩,[],0,0⟩]):=ho.snoc (zvy f3 f4 f2);rw[e1,zaY];by_cases k1:0<n1
      .rw[zaz k1];simp(disch:=omega)only[zW,zM,zF,zdU,zaa hlt,zbW nGOp];refine sat_of (λy=>zrO) ?_;exact back _ d1 (h1.snoc (zGN f1 f2 f3 f4 f5 f6 f7 f8 f9)) (by simp;omega) hd1
      .rw[zaC k1];simp only[zbW nGOp];refine sat_of (λy=>zpL) ?_;exact back _ d1 h1 (by simp;omega) hd1
    . rw[zaC k0];refine sat_of (λy=>zxr) ?_;simp only;rw[e1,zaY];by_cases k1:0<n1
      .rw[zaz k1];simp(disch:=omega)only[zW,zM,zF,zdU,zaa hlt,zbW nGOp];refine sat_of (λy=>zrO) ?_;exact back _ d1 (ho.snoc (zGN f1 f2 f3 f4 f5 f6 f7 f8 f9)) (by simp;omega) hd1
      .rw[zaC k1];refine sat_of (λy=>zpL) ?_;exact back _ d1 ho (by omega) hd1
 refine sat_of (λy=>zEJ) ?_;rw[es,zvY];exact one sc.length 0 [] ds (by omega) (by intro o h;cases h) (by simp) hds
end Go.Proofs.YtcpnffbcljkbkaaGreatDoor
namespace Go.Proofs.YtcpnffbcljkbkaaGreatDoor
open Go.Ab
set_option maxRecDepth 20000
structure SetG(s:zaZ):Prop where
 markers:zv2 s.u
 short2:∀m∈s.u,m.h.length<=1000000
 papers:s.h.length<=32
 len:s.H.length=s.h.length
 schemes:∀(j:Nat) (p:zaQ) (c:zbC),s.h[j]?=some p->s.H[j]?=some c->zgr p c
 short:∀c∈s.H,Short c
 monitor:OkMon s.O
 scripts:s.j.length<=100000
 seeds:s.B.length<=100000
def s_Fits26(p:zaQ)(m:aQ)(hp:p.d.length<=1000000):∃v,cw 107 [.agg (zaO p),.sl 1 (List.map zaj m)] []=some (zao v)/\(v=true->zoR p m):=by
 refine zch (D:=zac) (P:=λv=>v=true->zoR p m) (sat_of (λy=>zAL) ?_);have no:Sat (λy=>∃v:Bool,y=zao v/\(v=true->zoR p m)) (some (B false,([]:Mem))):=za1 ⟨false,rfl,λh=>by cases h⟩;refine sq_brn (λ_=>no) (λh=>?_)
 have hl:m.length=p.d.length:=by simp only[zab,bne_eq_false_iff_eq]at h;omega
 have loop:∀k i:Nat,i+k=m.length->(∀(j:Nat) (x:GPart) (v:Int),j<i->p.d[j]?=some x->m[j]?=some v->0<=v/\v<=x.N)->Sat (λy=>∃v:Bool,y=zao v/\(v=true->zoR p m)) (zmc p m i):=by
  intro k
  induction k with
  |zero=>intro i hi hj;refine sat_of (λy=>zpc) ?_;rw[zaC (by rw[zab];omega)];refine za1 ⟨true,rfl,λ_=>⟨hl,λj x v hx hv=>hj j x v ?_ hx hv⟩⟩;have:=(zal.1 hv).1;omega
  |succ k ih =>
    intro i hi hj;have hlt:i<m.length:=by omega
    have hlp:i<p.d.length:=by omega
    refine sat_of (λy=>zpc) ?_;simp(disch:=omega)only[zE,zcc,zfj,zaa hlt,zaa hlp];refine sq_brn (λ_=>no) (λg1=>sq_brn (λ_=>no) (λg2=>?_));have g1:=of_decide_eq_false g1;have g2:=of_decide_eq_false g2
    have:=ih (i+1) (by omega) (λj x v hji hx hv=>by
     rcases zcs j i with h|h
     .exact hj j x v h hx hv
     . have:j=i:=by omega
       subst this;rw[zaa hlp]at hx;rw[zaa hlt]at hv;cases hx;cases hv
       omega)
    rwa[show((i+1:Nat):Int)=(i:Int)+1 by omega]at this
 exact loop m.length 0 (by omega) (λj _ _ h=>absurd h (by omega))
def zGU(s:zaZ)(hs:SetG s):∃v,cw 80 [.agg (za4 s)] []=some (za9 v)/\(v=0->zc7 s):=by
 refine zch (D:=zaE) (P:=λv=>v=0->zc7 s) (sat_of (λy=>zzp) ?_);have no:Sat (λy=>∃v:Int,y=za9 v/\(v=0->zc7 s)) (some (I 1,([]:Mem))):=za1 ⟨1,rfl,λh=>by cases h⟩;have hp32:=hs.papers;have hlen:=hs.len;have hS:=hs.scripts;have hD:=hs.seeds;rw[zzn _ hs.short2 hs.markers,zcj];refine sq_brn (λh=>absurd h (by decide)) (λ_=>?_);obtain⟨e2,h3,h4⟩:=zmz s.j;rw[h3,zcj];refine sq_brn (λ_=>no) (λh=>?_);have hsc:zsU s.j:=h4.1 (by simpa using h);refine sq_brn (λ_=>no) (λ_=>sq_brn (λ_=>no) (λ_=>sq_brn (λ_=>no) (λh12=>?_)))
 have h12:s.B.length<=12:=by have:=of_decide_eq_false h12;rw[zab]at this;omega
 rw[zpR _ hs.monitor,zcj];refine sq_brn (λh=>absurd h (by decide)) (λ_=>?_)
 have third:(∀x∈s.j,∃(k:Nat) (p:zaQ) (c:zbC),zfu s.h x=some (k,p)/\s.H[k]?=some c/\OkAns p x.I)->∀k i:Nat,i+k=s.B.length->(∀j (hj:j<s.B.length),j<i->(∃(k:Nat) (p:zaQ),zhh s s.B[j].g=some (k,p)/\zoR p s.B[j].xc)/\(0<j->(s.B[j-1]'(by omega)).g<s.B[j].g))->Sat (λy=>∃v:Int,y=za9 v/\(v=0->zc7 s)) (zgE s i):=by
  intro hscr k
  induction k with
  |zero=>intro i hi hj;refine sat_of (λy=>zn7) ?_;rw[zaC (by rw[zab];omega)];refine za1 ⟨0,rfl,λ_=>⟨hs.markers,hsc,hs.papers,hs.len,hs.schemes,hscr,h12,zxH.1 (λj hj' h0=>(hj j hj' (by omega)).2 h0),λx hx=>?_,hs.monitor,hs.short,hs.short2⟩⟩;obtain⟨j,hj',rfl⟩:=zdp hx;exact(hj j hj' (by omega)).1
  |succ k ih =>
    intro i hi hj;have hlt:i<s.B.length:=by omega
    refine sat_of (λy=>zn7) ?_;simp(disch:=omega)only[zE,zpz,zaa hlt,zhu s _ (show s.j.length<=1000000 by omega) (show s.h.length<=1000000 by omega),zdf]
    cases hpo:zhh s s.B[i].g with
    |none=>exact sq_brn (λ_=>no) (λh=>absurd h (by decide))
    |some kp =>
      obtain⟨kk,p⟩:=kp;have hpk:=zry hpo;have hkl:=(zal.1 hpk).1;have hpp:=(hs.schemes kk p _ hpk (zaa (by omega))).1.2.2.1;refine sq_brn (λh=>absurd h (by simp[ixR])) (λ_=>?_);simp(disch:=omega)only[zF,ixR,zdF,hpk];refine zbq (D:=zac) (s_Fits26 p _ (by omega)) (λv hv=>sq_brn (λ_=>no) (λhv2=>?_));have hm:=hv (by simpa using hv2)
      have next:(0<i->(s.B[i-1]'(by omega)).g<s.B[i].g)->Sat (λy=>∃v:Int,y=za9 v/\(v=0->zc7 s)) (zgE s ((i:Int)+1)):=by
       intro hlt'
       have:=ih (i+1) (by omega) (λj hj' hji=>by
        rcases zcs j i with h|h
        .exact hj j hj' h
        . have:j=i:=by omega
          subst this
          exact⟨⟨kk,p,hpo,hm⟩,hlt'⟩)
       rwa[show((i+1:Nat):Int)=(i:Int)+1 by omega]at this
      refine sq_brn (λg=>?_) (λg=>?_)
      . have g:=of_decide_eq_true g;have hlt2:((i:Int)-1).toNat<s.B.length:=by omega
        simp(disch:=omega)only[zR,zpz,zaa hlt,zaa hlt2];refine sq_brn (λ_=>no) (λg3=>next (λ_=>?_));have g3:=of_decide_eq_false g3;have e:((i:Int)-1).toNat=i-1:=by omega
        simp only[e]at g3;omega
      .have g:=of_decide_eq_false g;exact next (λh=>absurd (show(0:Int)<i by omega) g)
 have second:∀k i:Nat,i+k=s.j.length->(∀j (hj:j<s.j.length),j<i->∃(k:Nat) (p:zaQ) (c:zbC),zfu s.h s.j[j]=some (k,p)/\s.H[k]?=some c/\OkAns p s.j[j].I)->Sat (λy=>∃v:Int,y=za9 v/\(v=0->zc7 s)) (zje s i):=by
  intro k
  induction k with
  |zero=>intro i hi hj;refine sat_of (λy=>zn6) ?_;rw[zaC (by rw[zab];omega)];refine third (λx hx=>?_) s.B.length 0 (by omega) (λj _ h=>absurd h (by omega));obtain⟨j,hj',rfl⟩:=zdp hx;exact hj j hj' (by omega)
  |succ k ih =>
    intro i hi hj;have hlt:i<s.j.length:=by omega
    refine sat_of (λy=>zn6) ?_;simp(disch:=omega)only[zE,zdU,zaa hlt,zkA s.h _ (show s.h.length<=1000000 by omega),zdf]
    cases hpo:zfu s.h s.j[i]with
    |none=>exact sq_brn (λ_=>no) (λh=>absurd h (by decide))
    |some kp =>
      obtain⟨kk,p⟩:=kp;have hpk:=(zfV hpo).1;have hkl:=(zal.1 hpk).1;have hkc:kk<s.H.length:=by omega
      refine sq_brn (λh=>absurd h (by simp[ixR])) (λ_=>?_);simp(disch:=omega)only[zF,ixR,zdF,zjq,hpk,zaa hkc];obtain⟨w,hw,hw1,hw2⟩:=zoW p s.H[kk] s.j[i].I (hs.short _ (zaq hkc));rw[hw,zoh];refine sq_brn (λ_=>no) (λg=>?_);have hok:=hw1.1 (by simpa using g)
      have:=ih (i+1) (by omega) (λj hj' hji=>by
       rcases zcs j i with h|h
       .exact hj j hj' h
       . have:j=i:=by omega
         subst this
         exact⟨kk,p,_,hpo,zaa hkc,hok.2⟩)
      rwa[show((i+1:Nat):Int)=(i:Int)+1 by omega]at this
 refine ziy s.h.length (λi=>zjd s i) ?_ (λi hi ih=>?_)
 .refine sat_of (λy=>zn5) ?_;rw[zaC (by rw[zab];omega)];exact second s.j.length 0 (by omega) (λj _ h=>absurd h (by omega))
 . have hi2:i<s.H.length:=by omega
   refine sat_of (λy=>zn5) ?_;simp(disch:=omega)only[zE,zdF,zjq,zaa hi,zaa hi2,zgc _ _ (hs.short _ (zaq hi2)),zaG];exact sq_brn (λ_=>no) (λ_=>ih)
def s_Until(l:aP)(t:Int)(hl:l.length<=2000):∃v,cw 152 [.sl 9 (mA l),I t] []=some (zga v)/\(v.length<=l.length/\∀e∈v,e∈l):=by
 refine zch (D:=ze4) (P:=λv=>v.length<=l.length/\∀e∈v,e∈l) (sat_of (λy=>zIr) ?_)
 have loop:∀k i:Nat,i+k=l.length->∀o:List zak,o.length<=i->(∀e∈o,e∈l)->Sat (λy=>∃v:List zak,y=zga v/\(v.length<=l.length/\∀e∈v,e∈l)) (zk7 l t (mA o) i):=by
  intro k
  induction k with
  |zero=>intro i hi o ho hm;refine sat_of (λy=>zwA) ?_;rw[zaC (by rw[zab];omega),zam rfl];exact za1 ⟨o,rfl,by omega,hm⟩
  |succ k ih =>
    intro i hi o ho hm;have hlt:i<l.length:=by omega
    refine sat_of (λy=>zwA) ?_;simp(disch:=omega)only[zE,zdN,zaa hlt,zbg];have go:=λo' a b=>ih (i+1) (by omega) o' a b
    rw[show((i+1:Nat):Int)=(i:Int)+1 by omega]at go;refine sq_brn (λ_=>?_) (λ_=>go o (by omega) hm);simp only[zbW zah]
    exact go _ (by simp;omega) (λe he=>by
     rcases zaX.1 he with he|he
     .exact hm e he
     .rw[zbs.1 he];exact zaq hlt)
 exact loop l.length 0 (by omega) [] (by simp) (by simp)
end Go.Proofs.YtcpnffbcljkbkaaGreatDoor
namespace Go.Proofs.YtcpnffbcljkbkaaGreatDoor
open Go.Ab
set_option maxRecDepth 20000
def zwp(a:zbu):∃v,cw 93 [.agg (zbj a)] []=some (zao v)/\Tr v:=by
 refine zch (D:=zac) (P:=Tr) (sat_of (λy=>zIG) ?_);rw[ztA,zaG]
 repeat' first
  |with_reducible refine sq_brn (λ_=>?_) (λ_=>?_)
  |exact za1 ⟨_,rfl,trivial⟩
def zA8(r:zb4):∃v,cw 82 [.agg (zcP r)] []=some (za9 v)/\(v=0->1<=r.xa):=by refine zch (D:=zaE) (P:=λv=>v=0->1<=r.xa) (sat_of (λy=>zIE) ?_);have no:Sat (λy=>∃v:Int,y=za9 v/\(v=0->1<=r.xa)) (some (I 2,([]:Mem))):=za1 ⟨2,rfl,λh=>by cases h⟩;refine sq_brn (λ_=>no) (λ_=>sq_brn (λ_=>no) (λ_=>sq_brn (λ_=>no) (λh=>?_)));have h:=of_decide_eq_false h;exact sq_brn (λ_=>no) (λ_=>sq_brn (λ_=>no) (λ_=>sq_brn (λ_=>no) (λ_=>za1 ⟨0,rfl,λ_=>by omega⟩)))
def zIX(l:List zbu)(hl:l.length<=1000000):∃v,cw 110 [.sl 6 (mK l)] []=some (zfN v)/\v.1.length<=l.length:=by
 refine zch (D:=zhT) (P:=λv=>v.1.length<=l.length) (sat_of (λy=>zCd) ?_)
 have loop:∀(m i:Nat) (o:List zbu),i+m=l.length->o.length<=i->Sat (λy=>∃v:List zbu×Int,y=zfN v/\v.1.length<=l.length) (zgP l (mK o) o.length (i:Nat)):=by
  intro m
  induction m with
  |zero=>intro i o hi ho;refine sat_of (λy=>zsc) ?_;rw[zaC (by rw[zab];omega)];refine sq_brn (λ_=>za1 ⟨([],3),rfl,by simp⟩) (λ_=>?_);rw[zam (by rw[zab];omega),zar (by simp)];exact za1 ⟨(o,0),rfl,by dsimp only;omega⟩
  |succ m ih =>
    intro i o hi ho;have hlt:i<l.length:=by omega
    have stay:=ih (i+1) o (by omega) (by omega);rw[show((i+1:Nat):Int)=(i:Int)+1 by omega]at stay
    have ins:∀k:Nat,k<=o.length->Sat (λy=>∃v:List zbu×Int,y=zfN v/\v.1.length<=l.length) (ziF l (mK o) o.length (i:Nat) (k:Nat)):=by
     intro k hk;refine sat_of (λy=>zxv) ?_;have hraw:mK o++[[I 0,I 0,I 0,I 0,I 0,I 0]]=mK (o++[⟨⟨0,0,0⟩,0,0,0⟩]):=by(try simp only[<-zbW zbj]);rfl
     have hA:(o++[(⟨⟨0,0,0⟩,0,0,0⟩:zbu)]).length=o.length+1:=by simp
     have hk1:((k:Int)+1).toNat=k+1:=by omega
     simp(disch:=omega)only[zW,zL,hraw,zbW zbj,hk1,zae,hA,<-zd3,<-ze5,<-zct,zgx zbj,zbN];have hXl:=zwr (k:=k) hA (by omega);generalize (List.take (k+1) (o++[(⟨⟨0,0,0⟩,0,0,0⟩:zbu)])++List.take (o.length+1-(k+1)) (List.take (o.length+1-k) (List.drop k (o++[(⟨⟨0,0,0⟩,0,0,0⟩:zbu)])))++List.drop (k+1+Min.min (List.take (o.length+1-k) (List.drop k (o++[(⟨⟨0,0,0⟩,0,0,0⟩:zbu)]))).length (o.length+1-(k+1))) (o++[(⟨⟨0,0,0⟩,0,0,0⟩:zbu)]))=X at hXl ⊢;have hkX:k<X.length:=by omega
     simp(disch:=omega)only[zgW,zaa hlt,zaa hkX,zad,zgx zbj];have:=ih (i+1) (X.set k l[i]) (by omega) (by rw[zbN];omega);rw[zbN,hXl,show((i+1:Nat):Int)=(i:Int)+1 by omega]at this;exact this
    have go:∀k:Nat,k<=o.length->Sat (λy=>∃v:List zbu×Int,y=zfN v/\v.1.length<=l.length) (zib l (mK o) o.length (i:Nat) (k:Nat)):=by
     intro k
     induction k with
     |zero=>intro hk;refine sat_of (λy=>zse) ?_;rw[zaC (by omega)];exact ins 0 hk
     |succ k ihk =>
       intro hk;have hko:k<o.length:=by omega
       have hk1:((k+1:Nat):Int)-1=k:=by omega
       refine sat_of (λy=>zse) ?_;simp(disch:=omega)only[zR,zaz,hk1,zaI,zgW,zaa hlt,zaa hko,zq4,zaG];exact sq_brn (λ_=>ihk (by omega)) (λ_=>ins (k+1) hk)
    have two:∀n j:Nat,j+n=l.length->∀b:Bool,Sat (λy=>∃v:List zbu×Int,y=zfN v/\v.1.length<=l.length) (zeL l (mK o) o.length (i:Nat) b j):=by
     intro n
     induction n with
     |zero=>intro j hj b;refine sat_of (λy=>zsd) ?_;rw[zaC (by rw[zab];omega)];simp(disch:=omega)only[w64_id];exact sq_brn (λ_=>stay) (λ_=>go o.length (zav _))
     |succ n ihn =>
       intro j hj b;have hlj:j<l.length:=by omega
       have nx:=λb=>ihn (j+1) (by omega) b
       rw[show((j+1:Nat):Int)=(j:Int)+1 by omega]at nx;refine sat_of (λy=>zsd) ?_;simp(disch:=omega)only[zE,zgW,zaa hlj,zaa hlt];refine sq_brn (λ_=>zbq (D:=zac) (zwp _) (λ_ _=>?_)) (λ_=>sq_brn (λ_=>stay) (λ_=>go o.length (zav _)))
       repeat' first
        |with_reducible exact nx _
        |with_reducible refine sq_brn (λ_=>?_) (λ_=>?_)
    refine sat_of (λy=>zsc) ?_;simp(disch:=omega)only[zE,zgW,zaa hlt];exact zbq (D:=zac) (zwp _) (λb _=>two l.length 0 (by omega) b)
 exact loop l.length 0 [] (by omega) (by simp)
def s_InTime(r:zb4)(n:Int)(l:List zbu)(hl:l.length<=1000000):∃v,cw 64 [.agg (zcP r),I n,.sl 6 (mK l)] []=some (zo8 v)/\v.length<=l.length:=by
 refine zch (D:=zjZ) (P:=λv=>v.length<=l.length) (sat_of (λy=>zF5) ?_)
 have loop:∀k i:Nat,i+k=l.length->∀o:List zbu,o.length<=i->Sat (λy=>∃v:List zbu,y=zo8 v/\v.length<=l.length) (zfy r n l (mK o) i):=by
  intro k
  induction k with
  |zero=>intro i hi o ho;refine sat_of (λy=>zvR) ?_;rw[zaC (by rw[zab];omega),zam (by simp),zar (by simp)];exact za1 ⟨o,rfl,by omega⟩
  |succ k ih =>
    intro i hi o ho;have hlt:i<l.length:=by omega
    have go:=λo' a=>ih (i+1) (by omega) o' a
    rw[show((i+1:Nat):Int)=(i:Int)+1 by omega]at go;have g1:=go o (by omega);have g2:=go (o++[l[i]]) (by simp;omega);refine sat_of (λy=>zvR) ?_;have hw:w64 ((i:Int)+1)=(i:Int)+1:=w64_id (by omega) (by omega);simp(disch:=omega)only[zI,zF,zaz,zgW,zaa hlt,zbW zbj,hw,ztA,zaG]
    repeat' first
     |with_reducible exact g1
     |with_reducible exact g2
     |with_reducible refine sq_brn (λ_=>?_) (λ_=>?_)
 exact loop l.length 0 (by omega) [] (by simp)
def zDW(m:zbk)(a b:Int)(hm:m.T.length<=1000000):∃v,cw 113 [.agg (zbR m),I a,I b] []=some (zao v)/\Tr v:=by
 refine zch (D:=zac) (P:=Tr) (sat_of (λy=>zF6) ?_);refine ziy m.T.length (λi=>zkb m a b i) ?_ (λi hi ih=>?_)
 .refine sat_of (λy=>zvS) ?_;rw[zaC (by rw[zab];omega)];exact za1 ⟨false,rfl,trivial⟩
 .refine sat_of (λy=>zvS) ?_;simp(disch:=omega)only[zE,zgU,zaa hi];exact sq_brn (λ_=>sq_brn (λ_=>za1 ⟨true,rfl,trivial⟩) (λ_=>ih)) (λ_=>ih)
def s_Scope(s:zaZ)(hs:zc7 s)(m:zbk)(a:zbu)(hm:m.T.length<=1000000):∃v,cw 154 [.agg (za4 s),.agg (zbR m),.agg (zbj a)] []=some (zdq v)/\v.length<=s.j.length:=by
 refine zch (D:=zdr) (P:=λv=>v.length<=s.j.length) (sat_of (λy=>zIF) ?_);have h60:=hs.scripts.1;have h12:=hs.seeds;refine zbq (D:=zac) (zwp a) (λ_ _=>sq_brn (λ_=>za1 ⟨[],rfl,by simp⟩) (λ_=>?_))
 have loop:∀k i:Nat,i+k=s.j.length->∀o:List Int,o.length<=i->Sat (λy=>∃v:List Int,y=zdq v/\v.length<=s.j.length) (ze1 s m a (List.map zaj o) i):=by
  intro k
  induction k with
  |zero=>intro i hi o ho;refine sat_of (λy=>zwN) ?_;rw[zaC (by rw[zab];omega),zam rfl];exact za1 ⟨o,rfl,by omega⟩
  |succ k ih =>
    intro i hi o ho;have hlt:i<s.j.length:=by omega
    have go:=λo' a=>ih (i+1) (by omega) o' a
    rw[show((i+1:Nat):Int)=(i:Int)+1 by omega]at go;have hw:w64 ((i:Int)+1)=(i:Int)+1:=w64_id (by omega) (by omega);have g1:=go o (by omega)
    have g2:Sat (λy=>∃v:List Int,y=zdq v/\v.length<=s.j.length) (zhg s m a (List.map zaj o) i s.j[i]):=by refine sat_of (λy=>zBl) ?_;simp(disch:=omega)only[zI,zam,zbW zaj,hw];exact go _ (by simp;omega)
    refine sat_of (λy=>zwN) ?_;simp(disch:=omega)only[zV,zdU,zaa hlt,hw,zg8 s.B _ (show s.B.length<=1000000 by omega) (zrJ hs),zfx]
    repeat' first
     |with_reducible exact g1
     |with_reducible exact g2
     |with_reducible refine sq_brn (λ_=>?_) (λ_=>?_)
     |with_reducible refine zbq (D:=zac) (zDW m _ _ hm) (λ_ _=>?_)
 exact loop s.j.length 0 (by omega) [] (by simp)
def s_times(s:zaZ)(hs:zc7 s)(m:zbk)(l:List zbu)(b:Bool)(hm:m.T.length<=1000000)(hl:l.length<=1000000):∃v,cw 111 [.agg (za4 s),.agg (zbR m),.sl 6 (mK l),B b] []=some (zdq v)/\(v.length=s.j.length/\(l=[]->∀x∈v,x=-1)):=by
 let P:List Int->Prop:=λv=>v.length=s.j.length/\(l=[]->∀x∈v,x=-1)
 refine zch (D:=zdr) (P:=P) (sat_of (λy=>zIH) ?_);have h60:=hs.scripts.1
 have two:∀k:Nat,k<=l.length->∀o:List Int,P o->Sat (λy=>∃v:List Int,y=zdq v/\P v) (zlf s m l b (List.map zaj o) ((k:Int)-1)):=by
  intro k
  induction k with
  |zero=>intro _ o ho;refine sat_of (λy=>zwP) ?_;rw[zaC (by omega),zam (by simp[ho.1])];exact za1 ⟨o,rfl,ho⟩
  |succ k ih =>
    intro hk o ho;have hkl:k<l.length:=by omega
    have hne:l≠[]:=λh=>by rw[h]at hkl;simp at hkl
    have hk1:((k+1:Nat):Int)-1=k:=by omega
    have hP:∀o:List Int,o.length=s.j.length->P o:=λo h=>⟨h,λh=>absurd h hne⟩
    have next:=λo h=>ih (by omega) o (hP o h)
    rw[hk1]
    have body:Sat (λy=>∃v:List Int,y=zdq v/\P v) (zle s m l b (List.map zaj o) (k:Nat)):=by
     refine sat_of (λy=>zBm) ?_;simp(disch:=omega)only[zF,zgW,zaa hkl];refine zbq (D:=zdr) (s_Scope s hs m _ hm) (λr hr=>?_)
     have three:∀n i:Nat,i+n=s.j.length->∀o:List Int,o.length=s.j.length->Sat (λy=>∃v:List Int,y=zdq v/\P v) (znW s m l b (k:Nat) r (List.map zaj o) i):=by
      intro n
      induction n with
      |zero=>intro i hi o ho;refine sat_of (λy=>zwQ) ?_;rw[zaC (by simp;omega),w6Q];exact next o ho
      |succ n ihn =>
        intro i hi o ho;have hlt:i<s.j.length:=by omega
        have nx:=λo h=>ihn (i+1) (by omega) o h
        rw[show((i+1:Nat):Int)=(i:Int)+1 by omega]at nx
        have four:∀q j:Nat,j+q=r.length->∀o:List Int,o.length=s.j.length->Sat (λy=>∃v:List Int,y=zdq v/\P v) (zlg s m l b (k:Nat) r i (List.map zaj o) j):=by
         intro q
         induction q with
         |zero=>intro j hj o ho;refine sat_of (λy=>zwR) ?_;rw[zaC (by rw[zab];omega),w6Q];exact nx o ho
         |succ q ihq =>
           intro j hj o ho;have hjr:j<r.length:=by omega
           have hio:i<o.length:=by omega
           have mv:=λo h=>ihq (j+1) (by omega) o h
           rw[show((j+1:Nat):Int)=(j:Int)+1 by omega]at mv;refine sat_of (λy=>zwR) ?_;simp(disch:=omega)only[zE,zb9,zaI,zcc,zdU,zgW,zaa hjr,zaa hlt,zaa hkl,zaa hio,zgx zaj];exact sq_brn (λ_=>mv _ (by rw[zbN];exact ho)) (λ_=>mv o ho)
        refine sat_of (λy=>zwQ) ?_;rw[zaz (by simp;omega)];exact four r.length 0 (by omega) o ho
     exact three s.j.length 0 (by omega) o ho.1
    refine sat_of (λy=>zwP) ?_;simp(disch:=omega)only[zR,zaz,zgW,zaa hkl];exact sq_brn (λ_=>sq_brn (λ_=>next o ho.1) (λ_=>body)) (λ_=>body)
 have one:∀n i:Nat,i+n=s.j.length->∀o:List Int,o.length=s.j.length->(∀j (hj:j<o.length),j<i->o[j]=-1)->Sat (λy=>∃v:List Int,y=zdq v/\P v) (znV s m l b (List.map zaj o) i):=by
  intro n
  induction n with
  |zero=>intro i hi o ho hj;refine sat_of (λy=>zwO) ?_;rw[zaC (by simp;omega),zab,w6Q];refine two l.length (zav _) o ⟨ho,λ_ x hx=>?_⟩;obtain⟨j,hj',rfl⟩:=zdp hx;exact hj j hj' (by omega)
  |succ n ihn =>
    intro i hi o ho hj;have hio:i<o.length:=by omega
    refine sat_of (λy=>zwO) ?_;simp(disch:=omega)only[zE,zb9,zaI,zcc,zaa hio,zgx zaj]
    have:=ihn (i+1) (by omega) (o.set i (-1)) (by rw[zbN];exact ho) (λj hj' hji=>by
     rw[List.getElem_set];split
     .rfl
     . rw[zbN]at hj'
       exact hj j hj' (by omega))
    rwa[show((i+1:Nat):Int)=(i:Int)+1 by omega]at this
 rw[zam rfl,cPQ,zam (by simp;omega)];have:=one s.j.length 0 (by omega) (List.replicate s.j.length 0) (by simp) (λj _ h=>absurd h (by omega));simp only[List.map_replicate]at this;simp only[zab,zae];exact this
def s_open(s:zaZ)(t:aQ)(ht:t.length=s.j.length)(hl:s.j.length<=100000):∃v,cw 114 [.agg (za4 s),.sl 1 (List.map zaj t)] []=some (zga v)/\(v.length<=t.length/\∀e∈v,e.r=[]):=by
 refine zch (D:=ze4) (P:=λv=>v.length<=t.length/\∀e∈v,e.r=[]) (sat_of (λy=>zKb) ?_)
 have loop:∀k i:Nat,i+k=t.length->∀o:List zak,o.length<=i->(∀e∈o,e.r=[])->Sat (λy=>∃v:List zak,y=zga v/\(v.length<=t.length/\∀e∈v,e.r=[])) (zmf s t (mA o) i):=by
  intro k
  induction k with
  |zero=>intro i hi o ho hm;refine sat_of (λy=>zx8) ?_;rw[zaC (by rw[zab];omega),zam rfl];exact za1 ⟨o,rfl,by omega,hm⟩
  |succ k ih =>
    intro i hi o ho hm;have hlt:i<t.length:=by omega
    have hls:i<s.j.length:=by omega
    have go:=λo' a b=>ih (i+1) (by omega) o' a b
    rw[show((i+1:Nat):Int)=(i:Int)+1 by omega]at go;refine sat_of (λy=>zx8) ?_;simp(disch:=omega)only[zE,zcc,zdU,zaa hlt,zaa hls,zbg,zbW zah]
    exact sq_brn (λ_=>go _ (by simp;omega) (λe he=>by
     rcases zaX.1 he with he|he
     .exact hm e he
     .rw[zbs.1 he])) (λ_=>go o (by omega) hm)
 exact loop t.length 0 (by omega) [] (by simp) (by simp)
def s_wrong38(r:zb4)(q:zbQ)(s:zaZ)(hs:SetG s):∃v,cw 151 [.agg (zcP r),.agg (zcV q),.agg (za4 s)] []=some (zao v)/\(v=false->zc7 s):=by refine zch (D:=zac) (P:=λv=>v=false->zc7 s) (sat_of (λy=>zII) ?_);have no:Sat (λy=>∃v:Bool,y=zao v/\(v=false->zc7 s)) (some (B true,([]:Mem))):=za1 ⟨true,rfl,λh=>by cases h⟩;refine zbq (D:=zaE) (zA8 r) (λ_ _=>sq_brn (λ_=>no) (λ_=>?_));rw[ztD,zcj];refine sq_brn (λ_=>no) (λ_=>zbq (D:=zaE) (zGU s hs) (λv hv=>?_));exact za1 ⟨_,rfl,λh=>hv (by simpa using h)⟩
end Go.Proofs.YtcpnffbcljkbkaaGreatDoor
namespace Go.Proofs.YtcpnffbcljkbkaaGreatDoor
open Go.Ab
set_option maxRecDepth 20000
def Few(l:aP):Prop:=l.length<=1000/\∀e∈l,e.r.length<=1000000
def few_app{l o:aP}(hl:Few l)(ho:o.length<=1000)(hp:∀e∈o,e.r=[]):(l++o).length<=2000/\∀e∈l++o,e.r.length<=1000000:=
 ⟨by have:=hl.1;simp;omega,λe he=>by
  rcases zaX.1 he with he|he
  .exact hl.2 e he
  .rw[hp e he];simp⟩
def zLq{s:zaZ}(hs:zc7 s){g:zbL}(h:zi1 s g):g.q<=1099511627776:=by obtain⟨e,⟨x,_,_,_,k,p,y,hk,_,hy,_,hv,_⟩,_,_,hgv⟩:=h;have hp:=hs.okPaper (zfV hk).1;have:=(hp.2.2.2.1 y (zau hy)).1;omega
def zxm{s:zaZ}(hs:zc7 s){m:zbk}(h1:m.T.length<=2000)(h2:∀g∈m.T,zi1 s g):SmallM m:=by refine⟨by omega,λg hg=>?_⟩;exact zLq hs (h2 g hg)
def s_Changed(r:zb4)(q:zbQ)(s:zaZ)(hs:SetG s)(l:aP)(hl:Few l)(a:List zbu)(ha:a.length<=1000000)(c:List zbu×Int)
  (ec:cw 110 [.sl 6 (mK a)] []=some (zfN c)) (hc:c.1.length<=a.length):∃v,cw 108 [.agg (zcP r),.agg (zcV q),.agg (za4 s),.sl 9 (mA l),.sl 6 (mK a)] []=some (zeB v)/\((v.2=0->zc7 s)/\(v.1≠[]->c.1≠[])/\v.1.length<=s.j.length):=by
 let P:List Int×Int->Prop:=λv=>(v.2=0->zc7 s)/\(v.1≠[]->c.1≠[])/\v.1.length<=s.j.length
 refine zch (D:=zei) (P:=P) (sat_of (λy=>zES) ?_)
 have no:∀k:Int,(k=0->zc7 s)->Sat (λy=>∃v:List Int×Int,y=zeB v/\P v) (some (AV.tup [AV.sl 1 (List.map zaj []),I k],([]:Mem))):=
  λk hk=>za1 ⟨([],k),rfl,hk,λh=>absurd rfl h,by simp⟩
 refine zbq (D:=zac) (s_wrong38 r q s hs) (λw hw=>sq_brn (λ_=>no 1 (λh=>by cases h)) (λh=>?_));have hok:=hw h;have h60:=hok.scripts.1;have hl1:=hl.1;rw[ec,zqJ];refine sq_brn (λ_=>no _ (λ_=>hok)) (λ_=>?_);obtain⟨t,et,ht,hta⟩:=s_times s hok ⟨[],[]⟩ c.1 true (by simp) (by omega);rw[et,zpx,zam (by simp),zam (by rw[zab];omega)];rw[zar (zav _)];obtain⟨o,eo,ho,hop⟩:=s_open s t ht (by omega);rw[eo,zmB,zam (by simp),zam rfl,zar (zav _),zam (by simp only[zab];omega),zam (by simp),zar (zav _),<-zct];obtain⟨g1,g2⟩:=few_app hl (o:=o) (by omega) hop;obtain⟨m,em,hm1,hm2,_⟩:=zog s hok (l++o) g1 g2;rw[em,zj3];refine sq_brn (λ_=>no _ (λ_=>hok)) (λ_=>?_)
 have loop:∀k i:Nat,i+k=t.length->∀out:List Int,out.length<=i->(out≠[]->c.1≠[])->Sat (λy=>∃v:List Int×Int,y=zeB v/\P v) (zfL r q s l t (m,0) (List.map zaj out) i):=by
  intro k
  induction k with
  |zero=>intro i hi out ho hne;refine sat_of (λy=>zuq) ?_;rw[zar (zav _),zaC (by rw[zab];omega),zam (by simp),zar (zav _)];exact za1 ⟨(out,0),rfl,λ_=>hok,hne,by dsimp only;omega⟩
  |succ k ih =>
    intro i hi out ho hne;have hlt:i<t.length:=by omega
    have hls:i<s.j.length:=by omega
    have go:=λo' a b=>ih (i+1) (by omega) o' a b
    rw[show((i+1:Nat):Int)=(i:Int)+1 by omega]at go;have g1:=go out (by omega) hne;have hw:w64 ((i:Int)+1)=(i:Int)+1:=w64_id (by omega) (by omega);refine sat_of (λy=>zuq) ?_;rw[zar (zav _)];simp(disch:=omega)only[zV,zcc,zaa hlt,hw];refine sq_brn (λ_=>g1) (λhn=>?_);have hn:=of_decide_eq_false hn;refine zbq (D:=ze4) (s_Until l _ (by omega)) (λu hu=>?_);rw[zar (by rw[zab];exact zav _)];obtain⟨mu,emu,hu1,hu2,_⟩:=zog s hok u (by omega) (λe he=>hl.2 e (hu.2 e he));rw[emu,zj3];refine sq_brn (λh=>by simp at h) (λ_=>?_);simp(disch:=omega)only[zI,zF,zdU,zaa hls,ztE q s hok mu (show mu.T.length<=100000 by omega) (zxm hok (by omega) hu2) hu2,ztE q s hok m (show m.T.length<=100000 by omega) (zxm hok (by omega) hm2) hm2,zub,zbW zaj]
    have g2:=go (out++[s.j[i].l]) (by simp;omega) (λ_ hc0=>hn (by
     have:=hta hc0 t[i] (zaq hlt)
     omega))
    exact sq_brn (λ_=>sq_brn (λ_=>sq_brn (λ_=>g2) (λ_=>g1)) (λ_=>g1)) (λ_=>g1)
 exact loop t.length 0 (by omega) [] (by simp) (λh=>absurd rfl h)
def s_Blamed(r:zb4)(s:zaZ)(hs:zc7 s)(l:aP)(hl:Few l)(ch:aQ)(hch:ch.length<=1000000):∃v,cw 109 [.agg (zcP r),.agg (za4 s),.sl 9 (mA l),.sl 1 (List.map zaj ch)] []=some (zeB v)/\((v.1≠[]->ch≠[])/\v.1.length<=16):=by
 let P:List Int×Int->Prop:=λv=>(v.1≠[]->ch≠[])/\v.1.length<=16
 refine zch (D:=zei) (P:=P) (sat_of (λy=>zF4) ?_)
 have no:∀k:Int,Sat (λy=>∃v:List Int×Int,y=zeB v/\P v) (some (AV.tup [AV.sl 1 (List.map zaj []),I k],([]:Mem))):=
  λk=>za1 ⟨([],k),rfl,λh=>absurd rfl h,by simp⟩
 have h60:=hs.scripts.1;have h16:=hs.markers.1;have hl1:=hl.1;refine zbq (D:=zaE) (zA8 r) (λw hw=>sq_brn (λ_=>no 1) (λh=>?_));have hf:=hw (by simpa using h);simp only[ztC hs,zcj];refine sq_brn (λh=>by simp at h) (λ_=>?_);obtain⟨m,em,hm1,hm2,_⟩:=zog s hs l (by omega) hl.2;rw[em,zj3];refine sq_brn (λh=>by simp at h) (λ_=>?_)
 have one:∀n i:Nat,i+n=s.u.length->∀out:List Int,out.length<=i->(out≠[]->ch≠[])->Sat (λy=>∃v:List Int×Int,y=zeB v/\P v) (zis r s ch (m,0) (List.map zaj out) i):=by
  intro n
  induction n with
  |zero=>intro i hi out ho hne;refine sat_of (λy=>zvO) ?_;rw[zaC (by rw[zab];omega),zam (by simp),zar (zav _)];exact za1 ⟨(out,0),rfl,hne,by dsimp only;omega⟩
  |succ n ihn =>
    intro i hi out ho hne;have hmi:i<s.u.length:=by omega
    have go:=λo' a b=>ihn (i+1) (by omega) o' a b
    rw[show((i+1:Nat):Int)=(i:Int)+1 by omega]at go
    have two:∀n k:Nat,k+n=s.j.length->∀c:Int,0<=c->c<=k->(ch=[]->c=0)->Sat (λy=>∃v:List Int×Int,y=zeB v/\P v) (zit r s ch (m,0) (List.map zaj out) i c k):=by
     intro n
     induction n with
     |zero=>intro k hk c h0 h1 hz;refine sat_of (λy=>zvP) ?_;simp(disch:=omega)only[zR,zI,zaC,zfB,zaa hmi,zbW zaj];refine sq_brn (λ_=>sq_brn (λhge=>?_) (λ_=>go out (by omega) hne)) (λ_=>go out (by omega) hne);have hge:=of_decide_eq_true hge;exact go _ (by simp;omega) (λ_ h=>by have:=hz h;omega)
     |succ n ihk =>
       intro k hk c h0 h1 hz;have hsk:k<s.j.length:=by omega
       have nx:=λc a b d=>ihk (k+1) (by omega) c a b d
       rw[show((k+1:Nat):Int)=(k:Int)+1 by omega]at nx;have g1:=nx c h0 (by omega) hz
       have three:∀q j:Nat,j+q=ch.length->∀b:Bool,Sat (λy=>∃v:List Int×Int,y=zeB v/\P v) (zka r s ch (m,0) (List.map zaj out) i c k b j)\/(b=true/\ch=[]):=by
        intro q
        induction q with
        |zero =>
          intro j hj b;by_cases hb:b=true/\ch=[]
          .exact .inr hb
          .refine .inl (sat_of (λy=>zvQ) ?_);simp(disch:=omega)only[zR,zN,zfB,zdU,zaa hmi,zaa hsk];refine sq_brn (λhbt=>zbq (D:=zac) (zDW m _ _ (by omega)) (λ_ _=>sq_brn (λ_=>?_) (λ_=>g1))) (λ_=>g1);exact nx (c+1) (by omega) (by omega) (λh=>absurd ⟨hbt,h⟩ hb)
        |succ q ihq =>
          intro j hj b;have hjc:j<ch.length:=by omega
          have hne':ch≠[]:=λh=>by rw[h]at hjc;simp at hjc
          have mv:=λb=>(ihq (j+1) (by omega) b).resolve_right (λh=>hne' h.2)
          rw[show((j+1:Nat):Int)=(j:Int)+1 by omega]at mv;refine .inl (sat_of (λy=>zvQ) ?_);simp(disch:=omega)only[zE,zcc,zdU,zaa hjc,zaa hsk];exact sq_brn (λ_=>mv _) (λ_=>mv _)
       refine sat_of (λy=>zvP) ?_;rw[zaz (by rw[zab];omega)];exact(three ch.length 0 (by omega) false).resolve_right (λh=>by cases h.1)
    refine sat_of (λy=>zvO) ?_;rw[zaz (by rw[zab];omega)];exact two s.j.length 0 (by omega) 0 (by decide) (by decide) (λ_=>rfl)
 exact one s.u.length 0 (by omega) [] (by simp) (λh=>absurd rfl h)
def s_Reopened(r:zb4)(q:zbQ)(s:zaZ)(hs:SetG s)(l:aP)(hl:Few l)(a:List zbu)(ha:a.length<=1000000):∃v,cw 63 [.agg (zcP r),.agg (zcV q),.agg (za4 s),.sl 9 (mA l),.sl 6 (mK a)] []=some (ziw v)/\(v.1.length<=60/\(∀e∈v.1,e.r=[])/\(v.2=0->zc7 s)):=by
 let P:List zak×Int->Prop:=λv=>v.1.length<=60/\(∀e∈v.1,e.r=[])/\(v.2=0->zc7 s)
 refine zch (D:=zix) (P:=P) (sat_of (λy=>zDI) ?_)
 have no:∀k:Int,(k=0->zc7 s)->Sat (λy=>∃v:List zak×Int,y=ziw v/\P v) (some (AV.tup [AV.new 9 69 [],I k],([]:Mem))):=
  λk hk=>za1 ⟨([],k),rfl,by simp,by simp,hk⟩
 obtain⟨c,ec,hc⟩:=zIX a ha;have hl1:=hl.1;refine zbq (D:=zei) (s_Changed r q s hs l hl a ha c ec hc) (λch hch=>sq_brn (λh=>no _ hch.1) (λh=>?_));obtain⟨hok,hcc,hcl⟩:=hch;have hok:=hok (by simpa using h);have h60:=hok.scripts.1;have h12:=hok.seeds;refine zbq (D:=zei) (s_Blamed r s hok l hl ch.1 (by omega)) (λbl hbl=>sq_brn (λ_=>no _ (λ_=>hok)) (λ_=>?_));obtain⟨m,em,hm1,hm2,_⟩:=zog s hok l (by omega) hl.2;rw[em,zj3,ec,zqJ];obtain⟨t,et,ht,_⟩:=s_times s hok m c.1 false (by omega) (by omega);dsimp only;rw[et,zpx]
 have one:∀n i:Nat,i+n=t.length->∀o:List Int,o.length=t.length->Sat (λy=>∃v:List zak×Int,y=ziw v/\P v) (zld s l bl (m,0) c t (List.map zaj o) i):=by
  intro n
  induction n with
  |zero=>intro i hi o ho;refine sat_of (λy=>ztr) ?_;rw[zaC (by rw[zab];omega),zam (by simp[ho]),zar (by simp[ho])];obtain⟨e,ee,he,hep⟩:=s_open s o (by omega) (by omega);rw[ee,zmB,zam (by simp[ho]),zam (by simp[ho]),zam (by rw[zab];omega),zam (by simp),zam rfl,zar (zav _),zam (by simp only[zab];omega),zam (by simp),zar (zav _),<-zct];obtain⟨g1,g2⟩:=few_app hl (o:=e) (by omega) hep;obtain⟨cc,ecc,_⟩:=zCv (l++e) g1 g2;rw[ecc,zqI,zam (by simp)];refine sq_brn (λ_=>no _ (λ_=>hok)) (λ_=>?_);rw[zam rfl];exact za1 ⟨(e,0),rfl,by dsimp only;omega,hep,λ_=>hok⟩
  |succ n ihn =>
    intro i hi o ho;have hls:i<s.j.length:=by omega
    have hio:i<o.length:=by omega
    have nx:=λo h=>ihn (i+1) (by omega) o h
    rw[show((i+1:Nat):Int)=(i:Int)+1 by omega]at nx
    have two:∀q j:Nat,j+q=bl.1.length->∀o:List Int,o.length=t.length->Sat (λy=>∃v:List zak×Int,y=ziw v/\P v) (zf8 s l bl (m,0) c t i (List.map zaj o) j):=by
     intro q
     induction q with
     |zero=>intro j hj o ho;refine sat_of (λy=>zts) ?_;rw[zaC (by rw[zab];omega),w6Q];exact nx o ho
     |succ q ihq =>
       intro j hj o ho;have hjb:j<bl.1.length:=by omega
       have hio:i<o.length:=by omega
       have hbn:bl.1≠[]:=λh=>by rw[h]at hjb;simp at hjb
       have hcn:=hcc (hbl.1 hbn);have hc0:0<c.1.length:=zee.2 hcn;have hcl2:((c.1.length:Int)-1).toNat<c.1.length:=by omega
       have mv:=λo h=>ihq (j+1) (by omega) o h
       rw[show((j+1:Nat):Int)=(j:Int)+1 by omega]at mv;have g1:=mv o ho;refine sat_of (λy=>zts) ?_;have hbl16:=hbl.2;simp(disch:=omega)only[zE,zaI,zcc,zdU,zgW,zaa hjb,zaa hls,zaa hio,zaa hcl2,zgx zaj,zg8 s.B _ (show s.B.length<=1000000 by omega) (zrJ hok),zfx];refine sq_brn (λ_=>sq_brn (λ_=>zbq (D:=zac) (zDW m _ _ (by omega)) (λ_ _=>sq_brn (λ_=>?_) (λ_=>g1))) (λ_=>g1)) (λ_=>g1);exact mv _ (by rw[zbN];exact ho)
    refine sat_of (λy=>ztr) ?_;rw[zaz (by rw[zab];omega)];exact two bl.1.length 0 (by omega) o ho
 exact one t.length 0 (by omega) t rfl
end Go.Proofs.YtcpnffbcljkbkaaGreatDoor
namespace Go.Proofs.YtcpnffbcljkbkaaGreatDoor
open Go.Ab
set_option maxRecDepth 20000
def setG_of{r:zbF}(hr:DRules r)(x:ab)(y:List GSeed)(hx:x.length<=100000)(hy:y.length<=100000):SetG ⟨r.u,x,r.h,r.H,y,r.O⟩ where
 markers:=hr.markers.2.2.1
 short2:=λm hm=>za5 (hr.markers.2.2.2.1 m hm) (by decide)
 papers:=za5 hr.papers.2.1 (by decide)
 len:=hr.sch.1
 schemes:=λj p c h1 h2=>(hr.sch.2 j p c h1 h2).1
 short:=λc hc=>by
  obtain⟨j,hj,rfl⟩:=zdp hc;have hjs:j<r.H.length:=hj;have hjp:j<r.h.length:=by have:=hr.sch.1;omega
  exact(hr.sch.2 j _ _ (zaa hjp) (zaa hjs)).2
 monitor:=hr.mon
 scripts:=hx
 seeds:=hy
def RulesV(r:zbF):Prop:=OkAw r.xm/\∀c∈r.xk,0<c.xi.length->VC c
def s_Valid41(n:Int):∃v,cw 84 [I n] []=some (zao v)/\Tr v:=
 zch (D:=zac) (P:=Tr) (sat_of (λy=>zIJ) (sq_brn (λ_=>za1 ⟨_,rfl,trivial⟩) (λ_=>za1 ⟨false,rfl,trivial⟩)))
def zGX(r:zbF)(hr:DRules r):∃v,cw 53 [.agg (zbz r)] []=some (za9 v)/\(v=0->RulesV r):=by
 refine zch (D:=zaE) (P:=λv=>v=0->RulesV r) (sat_of (λy=>zIN) ?_);have no:Sat (λy=>∃v:Int,y=za9 v/\(v=0->RulesV r)) (some (I 1,([]:Mem))):=za1 ⟨1,rfl,λh=>by cases h⟩;have hsd:=hr.seeds.1;have hpl:=hr.papers.2.1;have hcl:=hr.cur.1;refine zbq (D:=zaE) (zGU _ (setG_of hr [] [] (by simp) (by simp))) (λ_ _=>sq_brn (λ_=>no) (λ_=>sq_brn (λ_=>no) (λ_=>?_)));rw[ztD,zcj];refine sq_brn (λ_=>no) (λ_=>zbq (D:=zaE) (zA8 _) (λ_ _=>sq_brn (λ_=>no) (λ_=>zbq (D:=zaE) (zwo _) (λv hv=>sq_brn (λ_=>no) (λh=>?_)))));have haw:=hv (by simpa using h);refine sq_brn (λ_=>no) (λ_=>zbq (D:=zac) (s_Valid41 _) (λ_ _=>sq_brn (λ_=>no) (λ_=>?_)))
 have three:∀k i:Nat,i+k=r.xk.length->(∀j (hj:j<r.xk.length),j<i->0<r.xk[j].xi.length->VC r.xk[j])->Sat (λy=>∃v:Int,y=za9 v/\(v=0->RulesV r)) (zli r i):=by
  intro k
  induction k with
  |zero=>intro i hi hj;refine sat_of (λy=>zwV) ?_;rw[zaC (by rw[zab];omega)];refine za1 ⟨0,rfl,λ_=>⟨haw,λc hc hp=>?_⟩⟩;obtain⟨j,hj',rfl⟩:=zdp hc;exact hj j hj' (by omega) hp
  |succ k ih =>
    intro i hi hj;have hlt:i<r.xk.length:=by omega
    have go:=λ(a:0<r.xk[i].xi.length->VC r.xk[i])=>ih (i+1) (by omega) (λj hj' hji=>by
     rcases zcs j i with h|h
     .exact hj j hj' h
     . have:j=i:=by omega
       subst this
       exact a)
    rw[show((i+1:Nat):Int)=(i:Int)+1 by omega]at go;refine sat_of (λy=>zwV) ?_;simp(disch:=omega)only[zE,zAQ,zaa hlt,zEy,zaG];refine sq_brn (λ_=>sq_brn (λ_=>no) (λh=>go (λ_=>ziB.1 (by simpa using h)))) (λh=>go (λhp=>?_));have h:=of_decide_eq_false h;omega
 have two:Sat (λy=>∃v:Int,y=za9 v/\(v=0->RulesV r)) (zlh r 0):=by
  have hu:=haw.1.2;refine ziy r.xm.Q.length (λi=>zlh r i) ?_ (λi hi ih=>?_)
  .refine sat_of (λy=>zwU) ?_;rw[zaC (by rw[zab];omega)];exact three r.xk.length 0 (by omega) (λj _ h=>absurd h (by omega))
  .refine sat_of (λy=>zwU) ?_;simp(disch:=omega)only[zE,zni,zaa hi];exact zbq (D:=zac) (s_code r _ (by omega)) (λ_ _=>sq_brn (λ_=>no) (λ_=>ih))
 refine sat_of (λy=>zFp) ?_;rw[zaC (by rw[zab];omega)];exact two
def s_valid(r:zbF)(hr:DRules r)(o:GOp):∃v,cw 54 [.agg (zbz r),.agg (nGOp o)] []=some (zao v)/\Tr v:=by
 refine zch (D:=zac) (P:=Tr) (sat_of (λy=>zIR) ?_);have hpl:=hr.papers.2.1;have hsl:=hr.sch.1;have yes:∀b:Bool,Sat (λy=>∃v:Bool,y=zao v/\Tr v) (some (B b,([]:Mem))):=λb=>za1 ⟨b,rfl,trivial⟩
 have inn:∀{a b c:Int} {K:Bool->Option (AV×Mem)},(∀x,Sat (λy=>∃v:Bool,y=zao v/\Tr v) (K x))->Sat (λy=>∃v:Bool,y=zao v/\Tr v) (callD zac (cw 92 [I a,I b,I c] []) K):=λ{a b c K} h=>by rw[c_in43,zaG];exact h _
 refine sq_brn (λ_=>zbq (D:=zac) (s_entry _) (λ_ _=>sq_brn (λ_=>zbq (D:=zac) (s_code r _ (by omega)) (λ_ _=>yes _)) (λ_=>yes _))) (λ_=>?_);refine sq_brn (λ_=>?_) (λ_=>?_)
 . obtain⟨e,h3,h4⟩:=zmz [o.g];rw[zkA _ _ (by omega),zdf,h3,zcj];refine sq_brn (λ_=>yes _) (λ_=>?_)
   cases hpo:zfu r.h o.g with
   |none=>exact sq_brn (λ_=>yes _) (λh=>absurd h (by decide))
   |some kp =>
     obtain⟨kk,p⟩:=kp;have hpk:=(zfV hpo).1;have hkl:=(zal.1 hpk).1;have hkc:kk<r.H.length:=by omega
     refine sq_brn (λh=>absurd h (by simp[ixR])) (λ_=>?_);simp(disch:=omega)only[zF,ixR,zdF,zjq,hpk,zaa hkc];obtain⟨w,hw,_,_⟩:=zoW p r.H[kk] o.g.I (hr.sch.2 kk p _ hpk (zaa hkc)).2;rw[hw,zoh];exact yes _
 refine sq_brn (λ_=>?_) (λ_=>?_)
 .rw[zzo,zaG];exact sq_brn (λ_=>sq_brn (λ_=>yes _) (λ_=>yes _)) (λ_=>yes _)
 refine sq_brn (λ_=>inn λ_=>sq_brn (λ_=>inn λ_=>yes _) (λ_=>yes _)) (λ_=>?_);refine sq_brn (λ_=>zbq (D:=zac) (zwp _) (λ_ _=>yes _)) (λ_=>?_);refine sq_brn (λ_=>zbq (D:=zaE) (zGV _ _) (λ_ _=>sq_brn (λ_=>inn λ_=>yes _) (λ_=>yes _))) (λ_=>?_);refine sq_brn (λ_=>inn λ_=>yes _) (λ_=>sq_brn (λ_=>inn λ_=>yes _) (λ_=>?_));exact sq_brn (λ_=>inn λ_=>sq_brn (λ_=>inn λ_=>yes _) (λ_=>yes _)) (λ_=>yes _)
def zG1(r:zbF)(hr:DRules r)(l:aU)(hl:l.length<=1000):∃v,cw 25 [.agg (zbz r),.sl 31 (mE l)] []=some (zao v)/\(v=false->RulesV r/\cw 53 [.agg (zbz r)] []=some (za9 0)):=by
 refine zch (D:=zac) (P:=λv=>v=false->RulesV r/\cw 53 [.agg (zbz r)] []=some (za9 0)) (sat_of (λy=>zIS) ?_);have no:Sat (λy=>∃v:Bool,y=zao v/\(v=false->RulesV r/\cw 53 [.agg (zbz r)] []=some (za9 0))) (some (B true,([]:Mem))):=za1 ⟨true,rfl,λh=>by cases h⟩;obtain⟨v,ev,hv⟩:=zGX r hr;refine zbq (D:=zaE) (P:=λv=>v=0->RulesV r/\cw 53 [.agg (zbz r)] []=some (za9 0)) ⟨v,ev,λh=>⟨hv h,h▸ev⟩⟩ (λv' hv'=>sq_brn (λ_=>no) (λh=>?_));have hv0:=hv' (by simpa using h);refine ziy l.length (λi=>znZ r l i) ?_ (λi hi ih=>?_)
 .refine sat_of (λy=>zwY) ?_;rw[zaC (by rw[zab];omega)];exact za1 ⟨false,rfl,λ_=>hv0⟩
 .refine sat_of (λy=>zwY) ?_;simp(disch:=omega)only[zE,zhW,zaa hi];exact zbq (D:=zac) (s_valid r hr _) (λ_ _=>sq_brn (λ_=>no) (λ_=>ih))
def OpsS(l:aU):Prop:=l.length<=1000/\∀o∈l,o.g.r.length<=1000/\o.g.I.length<=1000/\o.J.r.length<=1000/\W64 o.p/\W64 o.l
def OpsS.take{l:aU}(h:OpsS l)(n:Nat):OpsS (l.take n):=⟨by have:=h.1;rw[zcH];omega,λo ho=>h.2 o (zb7 ho)⟩
def s_Scripts(r:zbF)(hr:DRules r)(l:aU)(hl:OpsS l):∃v,cw 105 [.agg (zbz r),.sl 31 (mE l)] []=some (zgG v)/\v.length<=l.length:=by
 refine zch (D:=zjk) (P:=λv=>v.length<=l.length) (sat_of (λy=>zEW) ?_);have hl1:=hl.1;refine zbq (D:=zaE) (zGX r hr) (λ_ _=>sq_brn (λ_=>za1 ⟨[],rfl,by simp⟩) (λ_=>?_));refine zbq (D:=zgI) (zGZ l (by omega)) (λen hen=>?_)
 have loop:∀(m i:Nat) (o:ab),i+m=l.length->o.length<=i->Sat (λy=>∃v:List zaK,y=zgG v/\v.length<=l.length) (zgw r l en (mC o) o.length (i:Nat)):=by
  intro m
  induction m with
  |zero=>intro i o hi ho;refine sat_of (λy=>zux) ?_;rw[zaC (by rw[zab];omega),zam (by simp),zar (by simp)];exact za1 ⟨o,rfl,by omega⟩
  |succ m ih =>
    intro i o hi ho;have hlt:i<l.length:=by omega
    have stay:=ih (i+1) o (by omega) (by omega);rw[show((i+1:Nat):Int)=(i:Int)+1 by omega]at stay
    have ins:∀k:Nat,k<=o.length->Sat (λy=>∃v:List zaK,y=zgG v/\v.length<=l.length) (zjM r l en (mC o) o.length (i:Nat) l[i] (k:Nat)):=by
     intro k hk;refine sat_of (λy=>zy5) ?_;have hraw:mC o++[[I 0,I 0,I 0,I 0,I 0,AV.sl 1 [],AV.sl 1 []]]=mC (o++[⟨0,0,0,0,0,[],[]⟩]):=by(try simp only[<-zbW zaA]);rfl
     have hA:(o++[(⟨0,0,0,0,0,[],[]⟩:zaK)]).length=o.length+1:=by simp
     have hk1:((k:Int)+1).toNat=k+1:=by omega
     simp(disch:=omega)only[zW,zL,hraw,zbW zaA,hk1,zae,hA,<-zd3,<-ze5,<-zct,zgx zaA,zbN];have hXl:=zwr (k:=k) hA (by omega);generalize (List.take (k+1) (o++[(⟨0,0,0,0,0,[],[]⟩:zaK)])++List.take (o.length+1-(k+1)) (List.take (o.length+1-k) (List.drop k (o++[(⟨0,0,0,0,0,[],[]⟩:zaK)])))++List.drop (k+1+Min.min (List.take (o.length+1-k) (List.drop k (o++[(⟨0,0,0,0,0,[],[]⟩:zaK)]))).length (o.length+1-(k+1))) (o++[(⟨0,0,0,0,0,[],[]⟩:zaK)]))=X at hXl ⊢;have hkX:k<X.length:=by omega
     simp(disch:=omega)only[zdU,zaa hkX,zad,zgx zaA];have:=ih (i+1) (X.set k l[i].g) (by omega) (by rw[zbN];omega);rw[zbN,hXl,show((i+1:Nat):Int)=(i:Int)+1 by omega]at this;exact this
    have go:∀k:Nat,k<=o.length->Sat (λy=>∃v:List zaK,y=zgG v/\v.length<=l.length) (zlR r l en (mC o) o.length (i:Nat) l[i] (k:Nat)):=by
     intro k
     induction k with
     |zero=>intro hk;refine sat_of (λy=>zuA) ?_;rw[zaC (by omega)];exact ins 0 hk
     |succ k ihk =>
       intro hk;have hko:k<o.length:=by omega
       have hk1:((k+1:Nat):Int)-1=k:=by omega
       refine sat_of (λy=>zuA) ?_;simp(disch:=omega)only[zR,zaz,hk1,zaI,zdU,zaa hko];exact sq_brn (λ_=>ihk (by omega)) (λ_=>ins (k+1) hk)
    have three:∀n j:Nat,j+n=l.length->∀b:Bool,Sat (λy=>∃v:List zaK,y=zgG v/\v.length<=l.length) (zfc r l en (mC o) o.length (i:Nat) l[i] b j):=by
     intro n
     induction n with
     |zero=>intro j hj b;refine sat_of (λy=>zuz) ?_;rw[zaC (by rw[zab];omega)];simp(disch:=omega)only[w64_id];exact sq_brn (λ_=>stay) (λ_=>go o.length (zav _))
     |succ n ihn =>
       intro j hj b;have hlj:j<l.length:=by omega
       have nx:=λb=>ihn (j+1) (by omega) b
       rw[show((j+1:Nat):Int)=(j:Int)+1 by omega]at nx;refine sat_of (λy=>zuz) ?_;have hp:=hl.2 _ (zaq hlj);simp(disch:=omega)only[zE,zhW,zaa hlj,zJJ l[j].g l[i].g (show l[j].g.r.length<1000000000 by omega) (show l[j].g.I.length<1000000000 by omega),zaG]
       repeat' first
        |with_reducible exact nx _
        |with_reducible refine sq_brn (λ_=>?_) (λ_=>?_)
        |with_reducible refine zbq (D:=zac) (s_valid r hr _) (λ_ _=>?_)
    have two:∀n j:Nat,j+n=en.length->∀b:Bool,Sat (λy=>∃v:List zaK,y=zgG v/\v.length<=l.length) (zjv r l en (mC o) o.length (i:Nat) l[i] b j):=by
     intro n
     induction n with
     |zero=>intro j hj b;refine sat_of (λy=>zuy) ?_;rw[zaC (by rw[zab];omega)];exact three l.length 0 (by omega) b
     |succ n ihn =>
       intro j hj b;have hlj:j<en.length:=by omega
       have nx:=λb=>ihn (j+1) (by omega) b
       rw[show((j+1:Nat):Int)=(j:Int)+1 by omega]at nx;refine sat_of (λy=>zuy) ?_;simp(disch:=omega)only[zE,zaI,zl7,zaa hlj];exact sq_brn (λ_=>nx _) (λ_=>nx _)
    refine sat_of (λy=>zux) ?_;simp(disch:=omega)only[zE,zhW,zaa hlt];exact sq_brn (λ_=>stay) (λ_=>zbq (D:=zac) (s_valid r hr _) (λ_ _=>sq_brn (λ_=>stay) (λ_=>two en.length 0 (by omega) false)))
 exact loop l.length 0 [] (by omega) (by simp)
def s_Setup(r:zbF)(hr:DRules r)(hc:cw 53 [.agg (zbz r)] []=some (za9 0))(l:aU)(hl:OpsS l):∃v,cw 62 [.agg (zbz r),.sl 31 (mE l)] []=some (zng v)/\(SetG v/\v.h=r.h):=by
 refine zch (D:=zkI) (P:=λv=>SetG v/\v.h=r.h) (sat_of (λy=>zIP) ?_);have hl1:=hl.1;have hsd:=hr.seeds.1;have hpl:=hr.papers.2.1;rw[hc,zcj];refine sq_brn (λh=>absurd h (by decide)) (λ_=>zbq (D:=zjk) (s_Scripts r hr l hl) (λsc hsc=>?_))
 have loop:∀(m i:Nat) (o:List GSeed),i+m=r.B.length->o.length<=i->Sat (λy=>∃v:zaZ,y=zng v/\(SetG v/\v.h=r.h)) (zhB r sc (mR o) (i:Nat)):=by
  intro m
  induction m with
  |zero=>intro i o hi ho;refine sat_of (λy=>zwX) ?_;rw[zaC (by rw[zab];omega),zam (by simp),zar (by simp)];exact za1 ⟨⟨r.u,sc,r.h,r.H,o,r.O⟩,rfl,setG_of hr sc o (by omega) (by omega),rfl⟩
  |succ m ih =>
    intro i o hi ho;have hlt:i<r.B.length:=by omega
    have go:=λo a=>ih (i+1) o (by omega) a
    rw[show((i+1:Nat):Int)=(i:Int)+1 by omega]at go;have g1:=go o (by omega);have hw:w64 ((i:Int)+1)=(i:Int)+1:=w64_id (by omega) (by omega);refine sat_of (λy=>zwX) ?_;simp(disch:=omega)only[zI,zF,zaz,zpz,zaa hlt,hw,zl5 sc _ (show sc.length<=1000000 by omega),ziM,zkA r.h _ (show r.h.length<=1000000 by omega),zdf,zbW zex];refine sq_brn (λ_=>g1) (λ_=>?_)
    cases hpo:zfu r.h (scR (zgA sc r.B[i].g)).1 with
    |none=>exact sq_brn (λh=>absurd h (by simp[ixR])) (λ_=>g1)
    |some kp=>obtain⟨kk,p⟩:=kp;have hpk:=(zfV hpo).1;have hpp:=(hr.papers.2.2.1 p (zau hpk)).1.1;refine sq_brn (λ_=>?_) (λh=>absurd h (by simp[ixR]));simp(disch:=omega)only[zF,ixR,zdF,hpk];exact zbq (D:=zac) (s_Fits26 p _ (by omega)) (λ_ _=>sq_brn (λ_=>go _ (by simp;omega)) (λ_=>g1))
 exact loop r.B.length 0 [] (by omega) (by simp)
def flat_open{l:aP}(h:∀e∈l,e.r=[]):((mA l).all λcs=>cs.all flatC)=true:=by rw[zbd];intro cs hc;obtain⟨e,he,rfl⟩:=zbf.1 hc;have:=h e he;obtain⟨st,a,b,c,d,f,pg⟩:=e;cases this;rfl
def zG0(r:zbF)(hr:DRules r)(l:aU)(hl:OpsS l)(n:Int)(ew:cw 25 [.agg (zbz r),.sl 31 (mE l)] []=some (zao false))
  (s:zaZ) (e:cw 62 [.agg (zbz r),.sl 31 (mE l)] []=some (zng s)) (hs:SetG s):∃v,cw 30 [.agg (zbz r),.sl 31 (mE l),I n] []=some (zlm v)/\(v.2.2=0->zc7 s/\v.1.T.length<=2000/\∀g∈v.1.T,zi1 s g):=by
 refine zch (D:=zgJ) (P:=λv=>v.2.2=0->zc7 s/\v.1.T.length<=2000/\∀g∈v.1.T,zi1 s g) ?_;have hl1:=hl.1
 have no:∀k:Int,k≠0->Sat (λy=>∃v:zbk×(List zak)×Int,y=zlm v/\(v.2.2=0->zc7 s/\v.1.T.length<=2000/\∀g∈v.1.T,zi1 s g)) (some (AV.tup [AV.agg (zbR ⟨[],[]⟩),AV.sl 9 (mA []),I k],([]:Mem))):=
  λk hk=>za1 ⟨(⟨[],[]⟩,[],k),rfl,λh=>absurd h hk⟩
 refine sat_of (λy=>zEV) ?_;rw[ew,zaG,zaB]
 have loop:∀(m i:Nat) (o:aP) (q:List zbu),i+m=l.length->o.length<=i->(∀x∈o,x.r.length<=1000000)->q.length<=i->Sat (λy=>∃v:zbk×(List zak)×Int,y=zlm v/\(v.2.2=0->zc7 s/\v.1.T.length<=2000/\∀g∈v.1.T,zi1 s g)) (zhO r l n (mA o) (mK q) (i:Nat)):=by
  intro m
  induction m with
  |zero =>
    intro i o q hi ho hop hq;refine sat_of (λy=>zuw) ?_;rw[zaC (by rw[zab];omega),e,zuc,zam (by simp),zar (by simp)];refine zbq (D:=zjZ) (s_InTime _ _ q (by omega)) (λt ht=>?_);rw[zam (by simp),zar (by simp)];have few:Few o:=⟨by omega,hop⟩
    refine zbq (D:=zix) (s_Reopened _ _ s hs o few t (by omega)) (λv hv=>?_);obtain⟨h60,hpg,h0⟩:=hv;rw[zam (flat_open hpg)];refine sq_brn (λh=>no _ (by simpa using h)) (λh=>?_);have hok:=h0 (by simpa using h);obtain⟨g1,g2⟩:=few_app few (o:=v.1) (by omega) hpg;rw[zam (by simp),zam rfl,zar (zav _),zam (by simp only[zab];omega),zam (by simp),zar (zav _),<-zct];obtain⟨mk,emk,m1,m2,_⟩:=zog s hok (o++v.1) g1 g2;rw[emk,zj3];refine sq_brn (λh=>by simp at h) (λ_=>?_);rw[zam (by simp)];exact za1 ⟨(mk,v.1,0),rfl,λ_=>⟨hok,by dsimp only;omega,m2⟩⟩
  |succ m ih =>
    intro i o q hi ho hop hq;have hlt:i<l.length:=by omega
    have go:=λo q a b c=>ih (i+1) o q (by omega) a b c
    rw[show((i+1:Nat):Int)=(i:Int)+1 by omega]at go;refine sat_of (λy=>zuw) ?_;have hp:=hl.2 _ (zaq hlt);simp(disch:=omega)only[zE,zhW,zaa hlt,zbW zah,zbW zbj,zbg];refine sq_brn (λ_=>go _ _ (by simp;omega) (λx hx=>?_) (by omega)) (λ_=>sq_brn (λ_=>go _ _ (by omega) hop (by simp;omega)) (λ_=>go _ _ (by omega) hop (by omega)));rcases zaX.1 hx with h|h
    .exact hop x h
    .rw[zbs.1 h];omega
 exact loop l.length 0 [] [] (by omega) (by simp) (by simp) (by simp)
end Go.Proofs.YtcpnffbcljkbkaaGreatDoor
namespace Go.Proofs.YtcpnffbcljkbkaaGreatDoor
open Go.Ab
set_option maxRecDepth 20000
def s_Eval(c:zeT)(x:zbr):∃v,cw 141 [.agg (zft c),.agg (zaL x)] []=some (zda v)/\(v.2=0->VR v.1):=by
 refine zch (D:=zbl) (P:=λv=>v.2=0->VR v.1) (sat_of (λy=>zJ9) ?_);have no:∀k:Int,k≠0->Sat (λy=>∃v:zbr×Int,y=zda v/\(v.2=0->VR v.1)) (some (AV.tup [AV.agg (zaL ⟨0,0⟩),I k],([]:Mem))):=λk hk=>za1 ⟨(⟨0,0⟩,k),rfl,λh=>absurd h hk⟩
 rw[zEy,zaG];refine sq_brn (λ_=>no 1 (by decide)) (λh=>?_);obtain⟨h2,h4,l,hl,hf,ha⟩:=ziB.1 (show dec (VC c)=true by simpa using h);rw[zmr,zaG];refine sq_brn (λ_=>no 1 (by decide)) (λh=>?_);obtain⟨r,hr,rfl⟩:=VR_fit (of_decide_eq_true (show decide (VR x)=true by simpa using h));have e4:c.xi.length=l.length:=by rw[hl,zab]
 rw[hl];by_cases he:Go.Pure.EvP l r
 .have:=rvalue_ok l r ha (by omega) (by omega) hf hr he;refine zbq (D:=zh1) (P:=λv=>VR v.1) ⟨_,this,fit_VR (he.val (by omega))⟩ (λv hv=>sq_brn (λ_=>no 6 (by decide)) (λ_=>za1 ⟨(v.1,0),rfl,λ_=>hv⟩))
 .have:=rvalue_no l r ha (by omega) (by omega) hf hr he;refine zbq (D:=zh1) (P:=λv=>v.2=false) ⟨_,this,rfl⟩ (λv hv=>sq_brn (λ_=>no 6 (by decide)) (λh=>by rw[hv]at h;cases h))
def sumT_bd(M:Int)(hM:0<=M):∀(ps:List GPart) (ws vs:aQ),(∀x∈ps,0<=x.N/\x.N<=M)->(∀v∈vs,v<=M)->0<=sumT ps ws vs/\sumT ps ws vs<=M*ps.length
 |[],_,_,_,_=>by simp[sumT]
 |_::_,[],_,_,_=>by simp[sumT];exact Int.mul_nonneg hM (by omega)
 |_::_,_::_,[],_,_=>by simp[sumT];exact Int.mul_nonneg hM (by omega)
 |x::ps,w::ws,v::vs,h1,h2=>by
   have ih:=sumT_bd M hM ps ws vs (λx hx=>h1 x (zbG _ hx)) (λv hv=>h2 v (zbG _ hv));have hx:=h1 x (zdy ..);have hv:=h2 v (zdy ..)
   have ht:0<=termT x w v/\termT x w v<=M:=by
    unfold termT;split
    .exact hx
    . split
      .exact⟨by omega,hM⟩
      .split<;>omega
   rw[sumT,zaJ,zhm,Int.mul_add];omega
def totV_small(q:zbQ){s:zaZ}(hs:zc7 s){m:zbk}(hg:∀g∈m.T,zi1 s g)(n:Int):0<=(totV q s m n).2.1/\(totV q s m n).2.1<=1000:=by
 unfold totV;split
 case isFalse=>decide
 split
 case h_2=>decide
 rename_i x hx;have hxs:=(zpK hx).1;split
 case isFalse=>exact⟨zgk 0,show(0:Int)<=1000 by decide⟩
 obtain⟨k,p,c,hk,hc,_⟩:=hs.script x hxs;dsimp only;rw[hk];dsimp only;rw[hc];have hok:=hs.schemes k p c (zfV hk).1 hc;have hpl:=hok.1.2.2.1;have hpp:=hok.1.2.2.2.1
 have:=sumT_bd 40 (by decide) p.d c.x ((verdS q s m x).map (·.q)) (λy hy=>by have:=(hpp y hy).1;omega) (λv hv=>by
  obtain⟨j,hj,rfl⟩:=zdp hv;have hjp:j<p.d.length:=by rw[zab,zCW hk]at hj;exact hj
  have hVe:verdS q s m x=(List.range p.d.length).map (verdAt q m x p c (seedOf s.B x.l)):=by unfold verdS;rw[hk];dsimp only;rw[hc];rfl
  have h:=verd_ok q s hs m hg x hxs k p c hk hc j _ (zaa hjp);have h40:=(hpp _ (zaq hjp)).1;simp only[hVe,zjB,List.getElem_range]
  omega)
 rw[zci];omega
def s_unit(r:zbF)(hr:DRules r)(hv:RulesV r)(s:zaZ)(hs:zc7 s)(hsp:s.h=r.h)(m:zbk)(hm:m.T.length<=2000)(hg:∀g∈m.T,zi1 s g)(en:List zcL)(hen:en.length<=1000000)(n:Int)(u:GUnit)(hu:1<=u.N/\u.N<=200):∃v,cw 98 [.agg (zbz r),.agg (za4 s),.agg (zbR m),.sl 3 (mM en),I n,.agg (zey u)] []=some (zkf v)/\Tr v:=by
 refine zch (D:=zmn) (P:=Tr) (sat_of (λy=>zKh) ?_);have h60:=hs.scripts.1;have h32:=hs.papers;have hcl:=hr.cur.1;have yes:∀(k:Int) (x:zbr) (z:Int),Sat (λy=>∃v:zb3×Int,y=zkf v/\Tr v) (some (AV.tup [AV.agg (zbJ ⟨k,x⟩),I z],([]:Mem))):=λk x z=>za1 ⟨(⟨k,x⟩,z),rfl,trivial⟩
 have last0:Sat (λy=>∃v:zb3×Int,y=zkf v/\Tr v) (zlT u):=
  sat_of (λy=>zCm) (zbq (D:=zac) (zBC ⟨u.N,1⟩ ⟨0,1⟩ (VR_nat (by omega)) (VR_nat (by decide))) (λ_ _=>sq_brn (λ_=>yes _ _ _) (λ_=>yes _ _ _)))
 have last1:∀x:zbr,VR x->Sat (λy=>∃v:zb3×Int,y=zkf v/\Tr v) (zkr u x):=λx hx=>sat_of (λy=>zz1) (zbq (D:=zac) (zBC ⟨u.N,1⟩ x (VR_nat (by omega)) hx) (λ_ _=>sq_brn (λ_=>yes _ _ _) (λ_=>yes _ _ _)))
 have loop:∀k i:Nat,i+k=en.length->∀b:Bool,Sat (λy=>∃v:zb3×Int,y=zkf v/\Tr v) (zjW r s m en n u b i):=by
  intro k
  induction k with
  |zero =>
    intro i hi b;refine sat_of (λy=>zyd) ?_;rw[zaC (by rw[zab];omega)];refine sq_brn (λ_=>yes _ _ _) (λ_=>?_);generalize hN:w64 (w64 (u.v*10000)+n)=N;simp(disch:=omega)only[zl5 s.j N (show s.j.length<=1000000 by omega),ziM]
    cases hso:zgA s.j N with
    |none=>exact sq_brn (λ_=>yes _ _ _) (λh=>absurd h (by simp[scR]))
    |some x =>
      obtain⟨hx,hxn⟩:=zpK hso;obtain⟨kk,p,c,hk,hc,_⟩:=hs.script x hx;have hpk:=(zfV hk).1;have hkl:=(zal.1 hpk).1;have hkc:kk<r.xk.length:=by rw[hsp]at hkl;omega
      have hpo:zhh s N=some (kk,p):=by unfold zhh;rw[hso];exact hk
      refine sq_brn (λh=>absurd h (by simp[scR])) (λ_=>?_);have htot:=totV_small r.xz hs hg N;rw[ztE r.xz s hs m (by omega) (zxm hs (by omega) hg) hg N,zub];generalize totV r.xz s m N=T at htot ⊢;refine sq_brn (λ_=>yes _ _ _) (λ_=>?_);simp(disch:=omega)only[zF,zhu s N (show s.j.length<=1000000 by omega) (show s.h.length<=1000000 by omega),hpo,ixR,zdf,zAQ,zaa hkc];refine sq_brn (λ_=>?_) (λ_=>?_)
      .refine zbq (D:=zbl) (s_Eval _ _) (λv hv=>sq_brn (λ_=>yes _ _ _) (λh=>?_));have hvr:=hv (by simpa using h);exact sat_of (λy=>zCl) (sq_brn (λ_=>last0) (λ_=>last1 _ hvr))
      .exact sat_of (λy=>zz0) (sq_brn (λ_=>last0) (λ_=>last1 _ (VR_nat (by omega))))
  |succ k ih =>
    intro i hi b;have hlt:i<en.length:=by omega
    have nx:=λb=>ih (i+1) (by omega) b
    rw[show((i+1:Nat):Int)=(i:Int)+1 by omega]at nx;refine sat_of (λy=>zyd) ?_;simp(disch:=omega)only[zE,zl7,zaa hlt];exact sq_brn (λ_=>nx _) (λ_=>sq_brn (λ_=>nx _) (λ_=>nx _))
 exact loop en.length 0 (by omega) false
def zLG(r:zbF)(hr:DRules r)(l:aU)(hl:OpsS l)(n:Int):∃v,cw 55 [.agg (zbz r),.sl 31 (mE l),I n] []=some (zhS v)/\Tr v:=by
 refine zch (D:=zhU) (P:=Tr) (sat_of (λy=>zCe) ?_);have hl1:=hl.1;have no:∀k:Int,Sat (λy=>∃v:List zcb×Int,y=zhS v/\Tr v) (some (AV.tup [AV.sl 3 (mO []),I k],([]:Mem))):=λk=>za1 ⟨([],k),rfl,trivial⟩
 obtain⟨w,ew,hw⟩:=zG1 r hr l hl1;rw[ew,zaG];refine sq_brn (λ_=>no _) (λh=>?_);subst h;obtain⟨hv,hc⟩:=hw rfl;have hul:=hv.1.1;refine zbq (D:=zgI) (zGZ l (by omega)) (λen hen=>?_);rw[zam (by simp),zar (zav _)];refine zbq (D:=zdr) (zKt en (by omega)) (λwho hwho=>?_);rw[zam (by simp),zam (by simp)];obtain⟨s,es,hs,hsp⟩:=s_Setup r hr hc l hl;rw[es,zuc];refine sq_brn (λ_=>no _) (λh60=>sq_brn (λ_=>no _) (λ_=>?_));refine zbq (D:=zgJ) (zG0 r hr l hl n ew s es hs) (λmk hmk=>sq_brn (λ_=>no _) (λh=>?_));obtain⟨hok,hm1,hm2⟩:=hmk (by simpa using h)
 have loop:∀k i:Nat,i+k=who.length->∀o:List zcb,o.length=i->Sat (λy=>∃v:List zcb×Int,y=zhS v/\Tr v) (zkp r l en who s mk (mO o) i):=by
  intro k
  induction k with
  |zero=>intro i hi o ho;refine sat_of (λy=>zsf) ?_;rw[zaC (by rw[zab];omega),zam (by simp),zar (zav _)];exact za1 ⟨(o,0),rfl,trivial⟩
  |succ k ih =>
    intro i hi o ho;have hlt:i<who.length:=by omega
    refine sat_of (λy=>zsf) ?_;simp(disch:=omega)only[zE,zaI,zcc,zaa hlt];refine zbq (D:=zaE) (s_special l _ (by omega)) (λsp _=>?_)
    have inner:∀q j:Nat,j+q=r.xm.Q.length->∀us:List zb3,us.length=j->Sat (λy=>∃v:List zcb×Int,y=zhS v/\Tr v) (zkq r l en who s mk (mO o) i who[i] sp (mN us) j):=by
     intro q
     induction q with
     |zero =>
       intro j hj us hus;refine sat_of (λy=>zsg) ?_;have hraw:mO o++[[I who[i],sM us,I sp]]=mO (o++[⟨who[i],us,sp⟩]):=by(try simp only[<-zbW zcB]);rfl
       rw[zaC (by rw[zab];omega),zam (by simp),zam rfl,zam (by rw[zab];omega),zam rfl,zar (zav _),hraw,w6Q];have:=ih (i+1) (by omega) (o++[⟨who[i],us,sp⟩]) (by simp;omega)
       rwa[show((i+1:Nat):Int)=(i:Int)+1 by omega]at this
     |succ q ihq =>
       intro j hj us hus;have hju:j<r.xm.Q.length:=by omega
       refine sat_of (λy=>zsg) ?_;rw[zar (zav _)];simp(disch:=omega)only[zE,zaI,zcc,zni,zaa hlt,zaa hju];have hu:=(hv.1.2.1 _ (zaq hju)).2.2;refine zbq (D:=zmn) (s_unit r hr hv s hok hsp mk.1 hm1 hm2 en (by omega) _ _ hu) (λum _=>sq_brn (λ_=>no _) (λ_=>?_));simp(disch:=omega)only[zam,zbg,zbW zbJ];have:=ihq (j+1) (by omega) (us++[um.1]) (by simp;omega)
       rwa[show((j+1:Nat):Int)=(j:Int)+1 by omega]at this
    exact inner r.xm.Q.length 0 (by omega) [] rfl
 exact loop who.length 0 (by omega) [] rfl
def s_Bounds(r:zbF)(l:aU)(hl:OpsS l)(hb:r.xm.W.length<=1000)(hol:∀o∈l,o.W.length<=1000):∃v,cw 57 [.agg (zbz r),.sl 31 (mE l)] []=some (zmj v)/\Tr v:=by
 refine zch (D:=zj1) (P:=Tr) (sat_of (λy=>zF8) ?_);have hl1:=hl.1
 have loop:∀k i:Nat,i+k=l.length->∀(a:zcf) (t:Int),Sat (λy=>∃v:zcf,y=zmj v/\Tr v) (zg3 l a t i):=by
  intro k
  induction k with
  |zero=>intro i hi a t;refine sat_of (λy=>zvT) ?_;rw[zaC (by rw[zab];omega)];exact za1 ⟨a,rfl,trivial⟩
  |succ k ih =>
    intro i hi a t;have hlt:i<l.length:=by omega
    have nx:=λa t=>ih (i+1) (by omega) a t
    rw[show((i+1:Nat):Int)=(i:Int)+1 by omega]at nx
    have set:Sat (λy=>∃v:zcf,y=zmj v/\Tr v) (zko l a t i):=by refine sat_of (λy=>zzZ) ?_;simp(disch:=omega)only[zR,zhW,zaa hlt];exact nx _ _
    refine sat_of (λy=>zvT) ?_;have hb:=hol _ (zaq hlt);simp(disch:=omega)only[zE,zhW,zaa hlt];exact sq_brn (λ_=>sq_brn (λ_=>set) (λ_=>sq_brn (λ_=>zbq (D:=zac) (s_less43 _ _ (by omega)) (λ_ _=>sq_brn (λ_=>set) (λ_=>nx _ _))) (λ_=>nx _ _))) (λ_=>nx _ _)
 exact loop l.length 0 (by omega) _ _
def zFi(r:zbF)(hr:DRules r)(l:aU)(hl:OpsS l)(hol:∀o∈l,o.W.length<=1000)(n:Int):∃v,cw 26 [.agg (zbz r),.sl 31 (mE l),I n] []=some (zg5 v)/\OkOs v.1:=by
 refine zch (D:=zen) (P:=λv=>OkOs v.1) (sat_of (λy=>zDJ) ?_);refine zbq (D:=zhU) (zLG r hr l hl n) (λst _=>sq_brn (λ_=>?_) (λ_=>?_))
 .exact za1 ⟨([],_),rfl,⟨by simp,by simp,λj hj=>absurd hj (by simp)⟩⟩
 .have:=hr.max.2.2;refine zbq (D:=zj1) (s_Bounds r l hl (by omega) hol) (λa _=>zbq (D:=zen) (zLF a st.1) (λv hv=>?_));exact za1 ⟨v,rfl,hv⟩
structure RepOk(x:zcE):Prop where
 pub:x.s.length<=1000/\∀p∈x.s,W64 p.At/\W64 p.p/\OkOs p.y
 log:LogOk x.xj
 out:OkOs x.y
def s_Run(r:zbF)(hr:DRules r)(l:aU)(hl:OpsS l)(hol:∀o∈l,o.W.length<=1000):∃v,cw 8 [.agg (zbz r),.sl 31 (mE l)] []=some (znr v)/\RepOk v.1:=by
 refine zch (D:=zpJ) (P:=λv=>RepOk v.1) (sat_of (λy=>zLh) ?_);have hl1:=hl.1;have o0:OkOs []:=⟨by simp,by simp,λj hj=>absurd hj (by simp)⟩
 have no:∀k:Int,Sat (λy=>∃v:zcE×Int,y=znr v/\RepOk v.1) (some (AV.tup [AV.agg (zbY ⟨[],[],[],[]⟩),I k],([]:Mem))):=
  λk=>za1 ⟨(⟨[],[],[],[]⟩,k),rfl,⟨by simp,by simp⟩,⟨by simp,by simp⟩,o0⟩
 obtain⟨w,ew,hw⟩:=zG1 r hr l hl1;rw[ew,zaG];refine sq_brn (λ_=>no _) (λh=>?_);subst h;obtain⟨hv,hc⟩:=hw rfl
 have ht:∀n:Nat,∀o∈l.take n,-9223372036854775808<=o.p/\o.p<9223372036854775808:=λn o ho=>by have:=(hl.2 o (zb7 ho)).2.2.2.1;unfold W64 at this;omega
 have htl:∀o∈l,-9223372036854775808<=o.p/\o.p<9223372036854775808:=λo ho=>by have:=(hl.2 o ho).2.2.2.1;unfold W64 at this;omega
 have main:∀k i:Nat,i+k=l.length->∀(g:aW) (p:List zc8),LogOk g->p.length<=i->(∀x∈p,W64 x.At/\W64 x.p/\OkOs x.y)->Sat (λy=>∃v:zcE×Int,y=znr v/\RepOk v.1) (zh0 r l (mB g) (mV p) i):=by
  intro k
  induction k with
  |zero=>intro i hi g p hg hp hpo;refine sat_of (λy=>zzE) ?_;rw[zaC (by rw[zab];omega)];refine zbq (D:=zaE) (s_First l (by omega) htl) (λf _=>?_);refine zbq (D:=zen) (zFi r hr l hl hol f) (λo ho=>sq_brn (λ_=>no _) (λ_=>?_));refine zbq (D:=zaE) (s_First l (by omega) htl) (λf2 _=>?_);obtain⟨s,es,hs,_⟩:=s_Setup r hr hc l hl;refine zbq (D:=zgJ) (zG0 r hr l hl f2 ew s es hs) (λmk _=>?_);rw[zam (by simp),zar (zav _)];exact za1 ⟨(⟨p,o.1,g,mk.2.1⟩,0),rfl,⟨by dsimp only;omega,hpo⟩,hg,ho⟩
  |succ k ih =>
    intro i hi g p hg hp hpo;have hlt:i<l.length:=by omega
    have hil:i<=l.length:=by omega
    have nx:=λg p a b c=>ih (i+1) (by omega) g p a b c
    rw[show((i+1:Nat):Int)=(i:Int)+1 by omega]at nx;have stay:=nx g p hg (by omega) hpo;have hol':=hl.2 _ (zaq hlt);have hT:W64 l[i].p:=hol'.2.2.2.1;have hN:W64 l[i].l:=hol'.2.2.2.2;refine sat_of (λy=>zzE) ?_;have hw1:w64 ((i:Int)+1)=(i:Int)+1:=w64_id (by omega) (by omega);simp(disch:=omega)only[zI,zF,zaz,zcT,zhW,zaa hlt,hw1,<-zd3,zbW zcn];refine sq_brn (λ_=>?_) (λ_=>sq_brn (λ_=>sq_brn (λhp0=>?_) (λ_=>stay)) (λ_=>sq_brn (λ_=>?_) (λ_=>stay)))
    . refine zbq (D:=zaE) (s_First (l.take i) (by rw[zcH];omega) (ht i)) (λf _=>?_);refine zbq (D:=zen) (zFi r hr (l.take i) (hl.take i) (λo ho=>hol o (zb7 ho)) f) (λo ho=>sq_brn (λ_=>no _) (λ_=>?_));refine nx g (p++[⟨i,l[i].p,o.1⟩]) hg (by simp;omega) (λx hx=>?_);rcases zaX.1 hx with h|h
      .exact hpo x h
      .rw[zbs.1 h];exact⟨⟨by dsimp only;omega,by dsimp only;omega⟩,hT,ho⟩
    . have hp0:=of_decide_eq_true hp0;have hpl:((p.length:Int)-1).toNat<p.length:=by omega
      simp(disch:=omega)only[zL,zaI,zoj,zaa hpl,zad];have hpe:=(hpo _ (zaq hpl)).2.2;refine zbq (D:=zdZ) (s_certify g _ _ hg (by have:=hpe.1;omega) (λx hx=>?_) hT) (λg' hg'=>nx g' p hg' (by omega) hpo);have:=hpe.2.1 x hx;unfold OkU at this;unfold W64;omega
    .exact zbq (D:=zdZ) (s_putL g ⟨1,⟨l[i].l,0,0,l[i].p,0⟩⟩ hg ⟨hN,w64_0,w64_0,hT,w64_0⟩) (λg' hg'=>nx g' p hg' (by omega) hpo)
 have first:∀k i:Nat,i+k=l.length->∀n:Int,Sat (λy=>∃v:zcE×Int,y=znr v/\RepOk v.1) (zne r l n i):=by
  intro k
  induction k with
  |zero=>intro i hi n;refine sat_of (λy=>zzD) ?_;rw[zaC (by rw[zab];omega)];exact sq_brn (λ_=>no _) (λ_=>sq_brn (λ_=>no _) (λ_=>main l.length 0 (by omega) [] [] ⟨by simp,by simp⟩ (by simp) (by simp)))
  |succ k ih =>
    intro i hi n;have hlt:i<l.length:=by omega
    have nx:=λn=>ih (i+1) (by omega) n
    rw[show((i+1:Nat):Int)=(i:Int)+1 by omega]at nx;refine sat_of (λy=>zzD) ?_;have hw1:w64 ((i:Int)+1)=(i:Int)+1:=w64_id (by omega) (by omega);simp(disch:=omega)only[zV,zhW,zaa hlt,hw1];exact sq_brn (λ_=>nx _) (λ_=>nx _)
 exact first l.length 0 (by omega) 0
end Go.Proofs.YtcpnffbcljkbkaaGreatDoor
namespace Go.Proofs.YtcpnffbcljkbkaaGreatDoor
open Go.Ab Go.Str
set_option maxRecDepth 100000
end Go.Proofs.YtcpnffbcljkbkaaGreatDoor
namespace Go.Proofs.YtcpnffbcljkbkaaGreatDoor
open Go.Ab
set_option maxRecDepth 100000
def lt12{w:Nat}(h:w<12):w=0\/w=1\/w=2\/w=3\/w=4\/w=5\/w=6\/w=7\/w=8\/w=9\/w=10\/w=11:=by omega
def tsA(w:Nat):List (List AV):=(slotsC w).map λp=>if p.1 then[.v (.pointer none),.loc 5 31 0 p.2]else[.loc 5 31 0 p.2,.v (.pointer none)]
def fm0(o:GOp):tReg za3 zT 0 ⟨[(0,sY o)],[]⟩=(some ⟨[(1,bA 1 31)],[(1,pT o)]⟩):=by kernel_rfl
def fm1(o:GOp):tReg za3 zT 1 ⟨[(1,bA 1 31)],[(1,pT o)]⟩=(callD zaE (cw 43 [sY o] []) λ(r0:Int)=>some ⟨[(1,bA 1 31),(4,I r0)],[(1,pT o)]⟩):=by kernel_rfl
def fm10l(o:GOp)(c:GOp)(fs:aS)(W:Nat)(hW:W<12)(ws:List ByteArray)(n:Int)(i:Int)(v:aQ):tReg za3 zT 10 ⟨[(1,AV.fp (nGOp o)),(5,bA 5 31),(7,AV.row 22 2 0 (slotsC W).length),(8,bB 8 1 (List.map nStr ws)),(9,I i),(10,bA 10 2),(28,AV.sl 2 fs),(29,I n),(30,I i)],[(5,pT c),(8,⟨1,9,List.map nStr ws,false⟩),(10,⟨2,149,[[AV.v (.pointer none),AV.fp [AV.sl 1 (List.map zaj v)]]],true⟩),(22,⟨2,149,tsA W,true⟩)]⟩=(callD zeM (cw 44 [AV.agg [AV.v (.pointer none),AV.fp [AV.sl 1 (List.map zaj v)]]] []) λ(r0:ByteArray×Bool) =>
 some ⟨[(1,AV.fp (nGOp o)),(5,bA 5 31),(7,AV.row 22 2 0 (slotsC W).length),(8,bB 8 1 (List.map nStr ws)),(9,I i),(10,bA 10 2),(11,AV.v (.string r0.1)),(12,B r0.2),(28,AV.sl 2 fs),(29,I n),(30,I i)],[(5,pT c),(8,⟨1,9,List.map nStr ws,false⟩),(10,⟨2,149,[[AV.v (.pointer none),AV.fp [AV.sl 1 (List.map zaj v)]]],true⟩),(22,⟨2,149,tsA W,true⟩)]⟩):=by
 rcases lt12 hW with rfl|rfl|rfl|rfl|rfl|rfl|rfl|rfl|rfl|rfl|rfl|rfl<;>kernel_rfl
def fm10n(o:GOp)(c:GOp)(fs:aS)(W:Nat)(hW:W<12)(ws:List ByteArray)(n:Int)(i:Int)(v:Int):tReg za3 zT 10 ⟨[(1,AV.fp (nGOp o)),(5,bA 5 31),(7,AV.row 22 2 0 (slotsC W).length),(8,bB 8 1 (List.map nStr ws)),(9,I i),(10,bA 10 2),(28,AV.sl 2 fs),(29,I n),(30,I i)],[(5,pT c),(8,⟨1,9,List.map nStr ws,false⟩),(10,⟨2,149,[[AV.fp [I v],AV.v (.pointer none)]],true⟩),(22,⟨2,149,tsA W,true⟩)]⟩=(callD zeM (cw 44 [AV.agg [AV.fp [I v],AV.v (.pointer none)]] []) λ(r0:ByteArray×Bool) =>
 some ⟨[(1,AV.fp (nGOp o)),(5,bA 5 31),(7,AV.row 22 2 0 (slotsC W).length),(8,bB 8 1 (List.map nStr ws)),(9,I i),(10,bA 10 2),(11,AV.v (.string r0.1)),(12,B r0.2),(28,AV.sl 2 fs),(29,I n),(30,I i)],[(5,pT c),(8,⟨1,9,List.map nStr ws,false⟩),(10,⟨2,149,[[AV.fp [I v],AV.v (.pointer none)]],true⟩),(22,⟨2,149,tsA W,true⟩)]⟩):=by
 rcases lt12 hW with rfl|rfl|rfl|rfl|rfl|rfl|rfl|rfl|rfl|rfl|rfl|rfl<;>kernel_rfl
def fm11l(o:GOp)(c:GOp)(fs:aS)(W:Nat)(hW:W<12)(ws:List ByteArray)(n:Int)(i:Int)(v:aQ)(s:ByteArray)(q:Bool):tReg za3 zT 11 ⟨[(1,AV.fp (nGOp o)),(5,bA 5 31),(7,AV.row 22 2 0 (slotsC W).length),(8,bB 8 1 (List.map nStr ws)),(9,I i),(10,bA 10 2),(11,AV.v (.string s)),(12,B q),(28,AV.sl 2 fs),(29,I n),(30,I i)],[(5,pT c),(8,⟨1,9,List.map nStr ws,false⟩),(10,⟨2,149,[[AV.v (.pointer none),AV.fp [AV.sl 1 (List.map zaj v)]]],true⟩),(22,⟨2,149,tsA W,true⟩)]⟩=(some ⟨[(1,AV.fp (nGOp o)),(5,bA 5 31),(7,AV.row 22 2 0 (slotsC W).length),(8,bB 8 1 (List.map nStr ws)),(9,I i),(10,bA 10 2),(11,AV.v (.string s)),(28,AV.sl 2 fs),(29,I n),(30,I i),(41,B (!q))],[(5,pT c),(8,⟨1,9,List.map nStr ws,false⟩),(10,⟨2,149,[[AV.v (.pointer none),AV.fp [AV.sl 1 (List.map zaj v)]]],true⟩),(22,⟨2,149,tsA W,true⟩)]⟩):=by rcases lt12 hW with rfl|rfl|rfl|rfl|rfl|rfl|rfl|rfl|rfl|rfl|rfl|rfl<;>kernel_rfl
def fm11n(o:GOp)(c:GOp)(fs:aS)(W:Nat)(hW:W<12)(ws:List ByteArray)(n:Int)(i:Int)(v:Int)(s:ByteArray)(q:Bool):tReg za3 zT 11 ⟨[(1,AV.fp (nGOp o)),(5,bA 5 31),(7,AV.row 22 2 0 (slotsC W).length),(8,bB 8 1 (List.map nStr ws)),(9,I i),(10,bA 10 2),(11,AV.v (.string s)),(12,B q),(28,AV.sl 2 fs),(29,I n),(30,I i)],[(5,pT c),(8,⟨1,9,List.map nStr ws,false⟩),(10,⟨2,149,[[AV.fp [I v],AV.v (.pointer none)]],true⟩),(22,⟨2,149,tsA W,true⟩)]⟩=(some ⟨[(1,AV.fp (nGOp o)),(5,bA 5 31),(7,AV.row 22 2 0 (slotsC W).length),(8,bB 8 1 (List.map nStr ws)),(9,I i),(10,bA 10 2),(11,AV.v (.string s)),(28,AV.sl 2 fs),(29,I n),(30,I i),(41,B (!q))],[(5,pT c),(8,⟨1,9,List.map nStr ws,false⟩),(10,⟨2,149,[[AV.fp [I v],AV.v (.pointer none)]],true⟩),(22,⟨2,149,tsA W,true⟩)]⟩):=by rcases lt12 hW with rfl|rfl|rfl|rfl|rfl|rfl|rfl|rfl|rfl|rfl|rfl|rfl<;>kernel_rfl
def fm13l(o:GOp)(c:GOp)(fs:aS)(W:Nat)(hW:W<12)(ws:List ByteArray)(n:Int)(i:Int)(v:aQ)(s:ByteArray):tReg za3 zT 13 ⟨[(1,AV.fp (nGOp o)),(5,bA 5 31),(7,AV.row 22 2 0 (slotsC W).length),(8,bB 8 1 (List.map nStr ws)),(9,I i),(10,bA 10 2),(11,AV.v (.string s)),(28,AV.sl 2 fs),(29,I n),(30,I i)],[(5,pT c),(8,⟨1,9,List.map nStr ws,false⟩),(10,⟨2,149,[[AV.v (.pointer none),AV.fp [AV.sl 1 (List.map zaj v)]]],true⟩),(22,⟨2,149,tsA W,true⟩)]⟩=(chk ((List.map nStr ws).length=(List.map nStr ws).length)<|
 chk (((List.map nStr ws).length+1)*(16+1)<=1099511627776)<|
 chk ((List.map nStr ws++[[AV.v (Go.Value.string s)]]).length=(List.map nStr ws++[[AV.v (Go.Value.string s)]]).length)<|
 some ⟨[(1,AV.fp (nGOp o)),(5,bA 5 31),(7,AV.row 22 2 0 (slotsC W).length),(8,bB 8 1 ((List.map nStr ws)++([[AV.v (.string s)]]))),(9,I i),(10,bA 10 2),(28,AV.sl 2 fs),(29,I n),(30,I i)],[(5,pT c),(8,⟨1,9,(List.map nStr ws)++([nStr s]),false⟩),(10,⟨2,149,[[AV.v (.pointer none),AV.fp [AV.sl 1 (List.map zaj v)]]],true⟩),(22,⟨2,149,tsA W,true⟩)]⟩):=by
 rcases lt12 hW with rfl|rfl|rfl|rfl|rfl|rfl|rfl|rfl|rfl|rfl|rfl|rfl<;>kernel_rfl
def fm13n(o:GOp)(c:GOp)(fs:aS)(W:Nat)(hW:W<12)(ws:List ByteArray)(n:Int)(i:Int)(v:Int)(s:ByteArray):tReg za3 zT 13 ⟨[(1,AV.fp (nGOp o)),(5,bA 5 31),(7,AV.row 22 2 0 (slotsC W).length),(8,bB 8 1 (List.map nStr ws)),(9,I i),(10,bA 10 2),(11,AV.v (.string s)),(28,AV.sl 2 fs),(29,I n),(30,I i)],[(5,pT c),(8,⟨1,9,List.map nStr ws,false⟩),(10,⟨2,149,[[AV.fp [I v],AV.v (.pointer none)]],true⟩),(22,⟨2,149,tsA W,true⟩)]⟩=(chk ((List.map nStr ws).length=(List.map nStr ws).length)<|
 chk (((List.map nStr ws).length+1)*(16+1)<=1099511627776)<|
 chk ((List.map nStr ws++[[AV.v (Go.Value.string s)]]).length=(List.map nStr ws++[[AV.v (Go.Value.string s)]]).length)<|
 some ⟨[(1,AV.fp (nGOp o)),(5,bA 5 31),(7,AV.row 22 2 0 (slotsC W).length),(8,bB 8 1 ((List.map nStr ws)++([[AV.v (.string s)]]))),(9,I i),(10,bA 10 2),(28,AV.sl 2 fs),(29,I n),(30,I i)],[(5,pT c),(8,⟨1,9,(List.map nStr ws)++([nStr s]),false⟩),(10,⟨2,149,[[AV.fp [I v],AV.v (.pointer none)]],true⟩),(22,⟨2,149,tsA W,true⟩)]⟩):=by
 rcases lt12 hW with rfl|rfl|rfl|rfl|rfl|rfl|rfl|rfl|rfl|rfl|rfl|rfl<;>kernel_rfl
def fm14l(o:GOp)(c:GOp)(fs:aS)(W:Nat)(hW:W<12)(ws:List ByteArray)(n:Int)(i:Int)(v:aQ):tReg za3 zT 14 ⟨[(1,AV.fp (nGOp o)),(5,bA 5 31),(7,AV.row 22 2 0 (slotsC W).length),(8,bB 8 1 (List.map nStr ws)),(9,I i),(10,bA 10 2),(28,AV.sl 2 fs),(29,I n),(30,I i)],[(5,pT c),(8,⟨1,9,List.map nStr ws,false⟩),(10,⟨2,149,[[AV.v (.pointer none),AV.fp [AV.sl 1 (List.map zaj v)]]],true⟩),(22,⟨2,149,tsA W,true⟩)]⟩=(some ⟨[(1,AV.fp (nGOp o)),(5,bA 5 31),(7,AV.row 22 2 0 (slotsC W).length),(8,bB 8 1 (List.map nStr ws)),(9,I i),(10,bA 10 2),(28,AV.sl 2 fs),(29,I n),(30,I i),(48,B true)],[(5,pT c),(8,⟨1,9,List.map nStr ws,false⟩),(10,⟨2,149,[[AV.v (.pointer none),AV.fp [AV.sl 1 (List.map zaj v)]]],true⟩),(22,⟨2,149,tsA W,true⟩)]⟩):=by rcases lt12 hW with rfl|rfl|rfl|rfl|rfl|rfl|rfl|rfl|rfl|rfl|rfl|rfl<;>kernel_rfl
def fm14n(o:GOp)(c:GOp)(fs:aS)(W:Nat)(hW:W<12)(ws:List ByteArray)(n:Int)(i:Int)(v:Int):tReg za3 zT 14 ⟨[(1,AV.fp (nGOp o)),(5,bA 5 31),(7,AV.row 22 2 0 (slotsC W).length),(8,bB 8 1 (List.map nStr ws)),(9,I i),(10,bA 10 2),(28,AV.sl 2 fs),(29,I n),(30,I i)],[(5,pT c),(8,⟨1,9,List.map nStr ws,false⟩),(10,⟨2,149,[[AV.fp [I v],AV.v (.pointer none)]],true⟩),(22,⟨2,149,tsA W,true⟩)]⟩=(some ⟨[(1,AV.fp (nGOp o)),(5,bA 5 31),(7,AV.row 22 2 0 (slotsC W).length),(8,bB 8 1 (List.map nStr ws)),(9,I i),(10,bA 10 2),(28,AV.sl 2 fs),(29,I n),(30,I i),(48,B (!true))],[(5,pT c),(8,⟨1,9,List.map nStr ws,false⟩),(10,⟨2,149,[[AV.fp [I v],AV.v (.pointer none)]],true⟩),(22,⟨2,149,tsA W,true⟩)]⟩):=by rcases lt12 hW with rfl|rfl|rfl|rfl|rfl|rfl|rfl|rfl|rfl|rfl|rfl|rfl<;>kernel_rfl
def fm17(o:GOp)(c:GOp)(fs:aS)(W:Nat)(hW:W<12)(ws:List ByteArray)(n:Int)(i:Int):tReg za3 zT 17 ⟨[(1,AV.fp (nGOp o)),(5,bA 5 31),(7,AV.row 22 2 0 (slotsC W).length),(8,bB 8 1 (List.map nStr ws)),(28,AV.sl 2 fs),(29,I n),(30,I i)],[(5,pT c),(8,⟨1,9,List.map nStr ws,false⟩),(22,⟨2,149,tsA W,true⟩)]⟩=(some ⟨[(1,AV.fp (nGOp o)),(5,bA 5 31),(7,AV.row 22 2 0 (slotsC W).length),(8,bB 8 1 (List.map nStr ws)),(28,AV.sl 2 fs),(29,I n),(30,I (w64 (i+1)))],[(5,pT c),(8,⟨1,9,List.map nStr ws,false⟩),(22,⟨2,149,tsA W,true⟩)]⟩):=by rcases lt12 hW with rfl|rfl|rfl|rfl|rfl|rfl|rfl|rfl|rfl|rfl|rfl|rfl<;>kernel_rfl
def fm18(o:GOp)(c:GOp)(fs:aS)(W:Nat)(hW:W<12)(ws:List ByteArray):tReg za3 zT 18 ⟨[(1,AV.fp (nGOp o)),(5,bA 5 31),(8,bB 8 1 (List.map nStr ws))],[(5,pT c),(8,⟨1,9,List.map nStr ws,false⟩)]⟩=(callD zac (cw 45 [sY o,sY c] []) λ(r0:Bool) =>
 some ⟨[(8,bB 8 1 (List.map nStr ws)),(73,B (!r0))],[(8,⟨1,9,List.map nStr ws,false⟩)]⟩):=by
 rcases lt12 hW with rfl|rfl|rfl|rfl|rfl|rfl|rfl|rfl|rfl|rfl|rfl|rfl<;>kernel_rfl
def fm2(o:GOp)(w:Int):tReg za3 zT 2 ⟨[(1,bA 1 31),(4,I w)],[(1,pT o)]⟩=(some ⟨[(1,bA 1 31),(4,I w),(16,B (w==12))],[(1,pT o)]⟩):=by kernel_rfl
def fm20(ws:List ByteArray):tReg za3 zT 20 ⟨[(8,bB 8 1 (List.map nStr ws))],[(8,⟨1,9,List.map nStr ws,false⟩)]⟩=(chk (0+(List.map nStr ws).length<=(List.map nStr ws).length)<|
 callD zcg (cw 46 [AV.sl 1 (List.take ((List.map nStr ws).length) (List.map nStr ws)),AV.v (.string ({ data:={ toList:=[32] } }))] []) λ(r0:ByteArray) =>
 some ⟨[(2,AV.v (.string r0)),(3,I 0)],[]⟩):=by kernel_rfl
def fm4(o:GOp)(w:Int):tReg za3 zT 4 ⟨[(1,bA 1 31),(4,I w)],[(1,pT o)]⟩=(callD zji (cw 40 [I w] []) λ(r0:GOp)=>some ⟨[(1,bA 1 31),(4,I w),(5,bA 5 31)],[(1,pT o),(5,pT r0)]⟩):=by kernel_rfl
def fm6(o:GOp)(c:GOp)(fs:aS)(W:Nat)(hW:W<12)(s:ByteArray)(n:Int)(w:Int):tSeg za3 zT 6 2 4 ⟨[(1,AV.fp (nGOp o)),(5,bA 5 31),(24,AV.fp [AV.v (.string s),I n]),(6,AV.sl 2 fs),(7,AV.row 22 2 0 (slotsC W).length)],[(5,pT c),(22,⟨2,149,tsA W,true⟩)]⟩=(some ⟨[(8,bB 27 1 ([[AV.v (.string s)]])),(27,bB 27 1 ([[AV.v (.string s)]])),(26,AV.v (.string s)),(25,AV.fp [AV.v (.string s),I n]),(1,AV.fp (nGOp o)),(5,bA 5 31),(24,AV.fp [AV.v (.string s),I n]),(6,AV.sl 2 fs),(7,AV.row 22 2 0 (slotsC W).length)],[(27,⟨1,9,[nStr s],false⟩),(5,pT c),(22,⟨2,149,tsA W,true⟩)]⟩):=by rcases lt12 hW with rfl|rfl|rfl|rfl|rfl|rfl|rfl|rfl|rfl|rfl|rfl|rfl<;>kernel_rfl
def fm7(o:GOp)(c:GOp)(fs:aS)(W:Nat)(hW:W<12)(ws:List ByteArray):tReg za3 zT 7 ⟨[(1,AV.fp (nGOp o)),(5,bA 5 31),(6,AV.sl 2 fs),(7,AV.row 22 2 0 (slotsC W).length),(8,bB 8 1 (List.map nStr ws))],[(5,pT c),(8,⟨1,9,List.map nStr ws,false⟩),(22,⟨2,149,tsA W,true⟩)]⟩=(some ⟨[(1,AV.fp (nGOp o)),(5,bA 5 31),(7,AV.row 22 2 0 (slotsC W).length),(8,bB 8 1 (List.map nStr ws)),(28,AV.sl 2 fs),(29,I (↑fs.length:Int)),(30,I 0)],[(5,pT c),(8,⟨1,9,List.map nStr ws,false⟩),(22,⟨2,149,tsA W,true⟩)]⟩):=by rcases lt12 hW with rfl|rfl|rfl|rfl|rfl|rfl|rfl|rfl|rfl|rfl|rfl|rfl<;>kernel_rfl
def fm8(o:GOp)(c:GOp)(fs:aS)(W:Nat)(hW:W<12)(ws:List ByteArray)(n:Int)(i:Int):tReg za3 zT 8 ⟨[(1,AV.fp (nGOp o)),(5,bA 5 31),(7,AV.row 22 2 0 (slotsC W).length),(8,bB 8 1 (List.map nStr ws)),(28,AV.sl 2 fs),(29,I n),(30,I i)],[(5,pT c),(8,⟨1,9,List.map nStr ws,false⟩),(22,⟨2,149,tsA W,true⟩)]⟩=(some ⟨[(1,AV.fp (nGOp o)),(5,bA 5 31),(7,AV.row 22 2 0 (slotsC W).length),(8,bB 8 1 (List.map nStr ws)),(28,AV.sl 2 fs),(29,I n),(30,I i),(31,B (decide (i<n)))],[(5,pT c),(8,⟨1,9,List.map nStr ws,false⟩),(22,⟨2,149,tsA W,true⟩)]⟩):=by rcases lt12 hW with rfl|rfl|rfl|rfl|rfl|rfl|rfl|rfl|rfl|rfl|rfl|rfl<;>kernel_rfl
theorem fm9l(o:GOp)(c:GOp)(fs:aS)(W:Nat)(hW:W<12)(ws:List ByteArray)(n:Int)(i:Int)(v:aQ):tSeg za3 zT 9 2 4 ⟨[(1,AV.fp (nGOp o)),(5,bA 5 31),(7,AV.row 22 2 0 (slotsC W).length),(8,bB 8 1 (List.map nStr ws)),(28,AV.sl 2 fs),(29,I n),(30,I i),(32,I i),(33,AV.fp [AV.v (.pointer none),AV.fp [AV.sl 1 (List.map zaj v)]])],[(5,pT c),(8,⟨1,9,List.map nStr ws,false⟩),(22,⟨2,149,tsA W,true⟩)]⟩=(some ⟨[(9,I i),(10,bA 10 2),(34,AV.agg [AV.v (.pointer none),AV.fp [AV.sl 1 (List.map zaj v)]]),(1,AV.fp (nGOp o)),(5,bA 5 31),(7,AV.row 22 2 0 (slotsC W).length),(8,bB 8 1 (List.map nStr ws)),(28,AV.sl 2 fs),(29,I n),(30,I i),(32,I i),(33,AV.fp [AV.v (.pointer none),AV.fp [AV.sl 1 (List.map zaj v)]])],[(10,⟨2,149,[[AV.v (.pointer none),AV.fp [AV.sl 1 (List.map zaj v)]]],true⟩),(5,pT c),(8,⟨1,9,List.map nStr ws,false⟩),(22,⟨2,149,tsA W,true⟩)]⟩):=by rcases lt12 hW with rfl|rfl|rfl|rfl|rfl|rfl|rfl|rfl|rfl|rfl|rfl|rfl<;>kernel_rfl
def fm9n(o:GOp)(c:GOp)(fs:aS)(W:Nat)(hW:W<12)(ws:List ByteArray)(n:Int)(i:Int)(v:Int):tSeg za3 zT 9 2 4 ⟨[(1,AV.fp (nGOp o)),(5,bA 5 31),(7,AV.row 22 2 0 (slotsC W).length),(8,bB 8 1 (List.map nStr ws)),(28,AV.sl 2 fs),(29,I n),(30,I i),(32,I i),(33,AV.fp [AV.fp [I v],AV.v (.pointer none)])],[(5,pT c),(8,⟨1,9,List.map nStr ws,false⟩),(22,⟨2,149,tsA W,true⟩)]⟩=(some ⟨[(9,I i),(10,bA 10 2),(34,AV.agg [AV.fp [I v],AV.v (.pointer none)]),(1,AV.fp (nGOp o)),(5,bA 5 31),(7,AV.row 22 2 0 (slotsC W).length),(8,bB 8 1 (List.map nStr ws)),(28,AV.sl 2 fs),(29,I n),(30,I i),(32,I i),(33,AV.fp [AV.fp [I v],AV.v (.pointer none)])],[(10,⟨2,149,[[AV.fp [I v],AV.v (.pointer none)]],true⟩),(5,pT c),(8,⟨1,9,List.map nStr ws,false⟩),(22,⟨2,149,tsA W,true⟩)]⟩):=by rcases lt12 hW with rfl|rfl|rfl|rfl|rfl|rfl|rfl|rfl|rfl|rfl|rfl|rfl<;>kernel_rfl
def fm16:∀(W i:Nat) (off:Nat),(slotsC W)[i]?=some (false,off)->∀(o c:GOp) (fs:aS) (ws:List ByteArray) (n:Int) (v:Int),tReg za3 zT 16 ⟨[(1,AV.fp (nGOp o)),(5,bA 5 31),(7,AV.row 22 2 0 (slotsC W).length),(8,bB 8 1 (List.map nStr ws)),(9,I i),(10,bA 10 2),(28,AV.sl 2 fs),(29,I n),(30,I i)],[(5,pT c),(8,⟨1,9,List.map nStr ws,false⟩),(10,⟨2,149,[[AV.fp [I v],AV.v (.pointer none)]],true⟩),(22,⟨2,149,tsA W,true⟩)]⟩ =
  chk ((0:Int)<=(i:Nat)) (chk (((i:Nat):Int)<((slotsC W).length:Nat)) (some ⟨[(1,AV.fp (nGOp o)),(5,bA 5 31),(7,AV.row 22 2 0 (slotsC W).length),(8,bB 8 1 (List.map nStr ws)),(28,AV.sl 2 fs),(29,I n),(30,I i)],[(5,pT (putN v off c)),(8,⟨1,9,List.map nStr ws,false⟩),(22,⟨2,149,tsA W,true⟩)]⟩)):=by
 intro W i off h o c fs ws n v
 have hW:W<12:=by
  rcases zcs W 12 with q|q
  .exact q
  .rw[show slotsC W=[]from by unfold slotsC;split<;>first|omega|rfl]at h;simp at h
 rcases lt12 hW with rfl|rfl|rfl|rfl|rfl|rfl|rfl|rfl|rfl|rfl|rfl|rfl
 all_goals
  match i,h with
  |0,h=>first|(cases h;done)|(have h1:=congrArg Prod.fst (zbb h);cases h1;done)|(have h2:=congrArg Prod.snd (zbb h);simp only at h2;subst h2;show _=_;kernel_rfl)
  |1,h=>first|(cases h;done)|(have h1:=congrArg Prod.fst (zbb h);cases h1;done)|(have h2:=congrArg Prod.snd (zbb h);simp only at h2;subst h2;show _=_;kernel_rfl)
  |2,h=>first|(cases h;done)|(have h1:=congrArg Prod.fst (zbb h);cases h1;done)|(have h2:=congrArg Prod.snd (zbb h);simp only at h2;subst h2;show _=_;kernel_rfl)
  |3,h=>first|(cases h;done)|(have h1:=congrArg Prod.fst (zbb h);cases h1;done)|(have h2:=congrArg Prod.snd (zbb h);simp only at h2;subst h2;show _=_;kernel_rfl)
  |4,h=>first|(cases h;done)|(have h1:=congrArg Prod.fst (zbb h);cases h1;done)|(have h2:=congrArg Prod.snd (zbb h);simp only at h2;subst h2;show _=_;kernel_rfl)
  |5,h=>first|(cases h;done)|(have h1:=congrArg Prod.fst (zbb h);cases h1;done)|(have h2:=congrArg Prod.snd (zbb h);simp only at h2;subst h2;show _=_;kernel_rfl)
  |6,h=>first|(cases h;done)|(have h1:=congrArg Prod.fst (zbb h);cases h1;done)|(have h2:=congrArg Prod.snd (zbb h);simp only at h2;subst h2;show _=_;kernel_rfl)
  |i+7,h=>cases h
def fm15:∀(W i:Nat) (off:Nat),(slotsC W)[i]?=some (true,off)->∀(o c:GOp) (fs:aS) (ws:List ByteArray) (n:Int) (v:aQ),tReg za3 zT 15 ⟨[(1,AV.fp (nGOp o)),(5,bA 5 31),(7,AV.row 22 2 0 (slotsC W).length),(8,bB 8 1 (List.map nStr ws)),(9,I i),(10,bA 10 2),(28,AV.sl 2 fs),(29,I n),(30,I i)],[(5,pT c),(8,⟨1,9,List.map nStr ws,false⟩),(10,⟨2,149,[[AV.v (.pointer none),AV.fp [AV.sl 1 (List.map zaj v)]]],true⟩),(22,⟨2,149,tsA W,true⟩)]⟩ =
  chk ((0:Int)<=(i:Nat)) (chk (((i:Nat):Int)<((slotsC W).length:Nat)) (some ⟨[(1,AV.fp (nGOp o)),(5,bA 5 31),(7,AV.row 22 2 0 (slotsC W).length),(8,bB 8 1 (List.map nStr ws)),(28,AV.sl 2 fs),(29,I n),(30,I i)],[(5,pT (putL v off c)),(8,⟨1,9,List.map nStr ws,false⟩),(22,⟨2,149,tsA W,true⟩)]⟩)):=by
 intro W i off h o c fs ws n v
 have hW:W<12:=by
  rcases zcs W 12 with q|q
  .exact q
  .rw[show slotsC W=[]from by unfold slotsC;split<;>first|omega|rfl]at h;simp at h
 rcases lt12 hW with rfl|rfl|rfl|rfl|rfl|rfl|rfl|rfl|rfl|rfl|rfl|rfl
 all_goals
  match i,h with
  |0,h=>first|(cases h;done)|(have h1:=congrArg Prod.fst (zbb h);cases h1;done)|(have h2:=congrArg Prod.snd (zbb h);simp only at h2;subst h2;show _=_;kernel_rfl)
  |1,h=>first|(cases h;done)|(have h1:=congrArg Prod.fst (zbb h);cases h1;done)|(have h2:=congrArg Prod.snd (zbb h);simp only at h2;subst h2;show _=_;kernel_rfl)
  |2,h=>first|(cases h;done)|(have h1:=congrArg Prod.fst (zbb h);cases h1;done)|(have h2:=congrArg Prod.snd (zbb h);simp only at h2;subst h2;show _=_;kernel_rfl)
  |3,h=>first|(cases h;done)|(have h1:=congrArg Prod.fst (zbb h);cases h1;done)|(have h2:=congrArg Prod.snd (zbb h);simp only at h2;subst h2;show _=_;kernel_rfl)
  |4,h=>first|(cases h;done)|(have h1:=congrArg Prod.fst (zbb h);cases h1;done)|(have h2:=congrArg Prod.snd (zbb h);simp only at h2;subst h2;show _=_;kernel_rfl)
  |5,h=>first|(cases h;done)|(have h1:=congrArg Prod.fst (zbb h);cases h1;done)|(have h2:=congrArg Prod.snd (zbb h);simp only at h2;subst h2;show _=_;kernel_rfl)
  |6,h=>first|(cases h;done)|(have h1:=congrArg Prod.fst (zbb h);cases h1;done)|(have h2:=congrArg Prod.snd (zbb h);simp only at h2;subst h2;show _=_;kernel_rfl)
  |i+7,h=>cases h
end Go.Proofs.YtcpnffbcljkbkaaGreatDoor
namespace Go.Proofs.YtcpnffbcljkbkaaGreatDoor
open Go.Ab
set_option maxRecDepth 100000
abbrev nilOp:List AV:=[I 0,I 0,I 0,I 0,I 0,I 0,I 0,I 0,I 0,bP,bP,I 0,I 0,I 0,I 0,I 0,I 0,I 0,I 0,bP,I 0,I 0,I 0,I 0,I 0,I 0,I 0,I 0,bP,I 0,I 0]
def tsP(w:Nat):List (List AV):=(slotsC w).map λp=>if p.1 then[.v (.pointer none),.loc 7 31 0 p.2]else[.loc 7 31 0 p.2,.v (.pointer none)]
def pz0(s:ByteArray):tReg zbi zT 0 ⟨[(0,AV.v (.string s))],[]⟩=(some ⟨[(0,AV.v (.string s)),(2,bA 2 31)],[(2,⟨31,75,[nilOp],true⟩)]⟩):=by kernel_rfl
def pz1(s:ByteArray):tReg zbi zT 1 ⟨[(0,AV.v (.string s)),(2,bA 2 31)],[(2,⟨31,75,[nilOp],true⟩)]⟩=(callD zlq (cw 39 [AV.v (.string s),AV.v (.string ({ data:={ toList:=[32] } }))] []) λ(r0:(List ByteArray))=>some ⟨[(2,bA 2 31),(4,bB 11 1 (List.map nStr r0))],[(2,⟨31,75,[nilOp],true⟩),(11,⟨1,9,List.map nStr r0,false⟩)]⟩):=by kernel_rfl
def pz10(c:GOp)(ws:List ByteArray)(W:Nat)(hW:W<12)(n:Int)(i:Int):tReg zbi zT 10 ⟨[(2,bA 2 31),(4,AV.sl 1 (List.map nStr ws)),(7,bA 7 31),(32,AV.row 32 2 0 (slotsC W).length),(33,I n),(34,I i)],[(2,⟨31,75,[nilOp],true⟩),(7,pT c),(32,⟨2,149,tsP W,true⟩)]⟩=(some ⟨[(2,bA 2 31),(4,AV.sl 1 (List.map nStr ws)),(7,bA 7 31),(32,AV.row 32 2 0 (slotsC W).length),(33,I n),(34,I i),(35,B (decide (i<n)))],[(2,⟨31,75,[nilOp],true⟩),(7,pT c),(32,⟨2,149,tsP W,true⟩)]⟩):=by rcases lt12 hW with rfl|rfl|rfl|rfl|rfl|rfl|rfl|rfl|rfl|rfl|rfl|rfl<;>kernel_rfl
def pz12l(c:GOp)(ws:List ByteArray)(W:Nat)(hW:W<12)(n:Int)(i:Int)(off:Nat):tReg zbi zT 12 ⟨[(2,bA 2 31),(4,AV.sl 1 (List.map nStr ws)),(7,bA 7 31),(8,I i),(9,bA 9 2),(32,AV.row 32 2 0 (slotsC W).length),(33,I n),(34,I i)],[(2,⟨31,75,[nilOp],true⟩),(7,pT c),(9,⟨2,149,[[AV.v (.pointer none),AV.loc 7 31 0 off]],true⟩),(32,⟨2,149,tsP W,true⟩)]⟩=(chk ((0:Int)<=(w64 (i+1)))<|
 elemD dStr (List.map nStr ws) ((w64 (i+1)).toNat) λ(c0:ByteArray) =>
 callD zid (cw 42 [AV.agg [AV.v (.pointer none),AV.loc 1000 31 0 off],AV.v (.string c0)] [(1000,pT c)]) λ(r1:Bool×GOp) =>
 some ⟨[(2,bA 2 31),(4,AV.sl 1 (List.map nStr ws)),(7,bA 7 31),(32,AV.row 32 2 0 (slotsC W).length),(33,I n),(34,I i),(46,B (!r1.1))],[(2,⟨31,75,[nilOp],true⟩),(7,pT r1.2),(32,⟨2,149,tsP W,true⟩)]⟩):=by
 rcases lt12 hW with rfl|rfl|rfl|rfl|rfl|rfl|rfl|rfl|rfl|rfl|rfl|rfl<;>kernel_rfl
def pz12n(c:GOp)(ws:List ByteArray)(W:Nat)(hW:W<12)(n:Int)(i:Int)(off:Nat):tReg zbi zT 12 ⟨[(2,bA 2 31),(4,AV.sl 1 (List.map nStr ws)),(7,bA 7 31),(8,I i),(9,bA 9 2),(32,AV.row 32 2 0 (slotsC W).length),(33,I n),(34,I i)],[(2,⟨31,75,[nilOp],true⟩),(7,pT c),(9,⟨2,149,[[AV.loc 7 31 0 off,AV.v (.pointer none)]],true⟩),(32,⟨2,149,tsP W,true⟩)]⟩=(chk ((0:Int)<=(w64 (i+1)))<|
 elemD dStr (List.map nStr ws) ((w64 (i+1)).toNat) λ(c0:ByteArray) =>
 callD zid (cw 42 [AV.agg [AV.loc 1000 31 0 off,AV.v (.pointer none)],AV.v (.string c0)] [(1000,pT c)]) λ(r1:Bool×GOp) =>
 some ⟨[(2,bA 2 31),(4,AV.sl 1 (List.map nStr ws)),(7,bA 7 31),(32,AV.row 32 2 0 (slotsC W).length),(33,I n),(34,I i),(46,B (!r1.1))],[(2,⟨31,75,[nilOp],true⟩),(7,pT r1.2),(32,⟨2,149,tsP W,true⟩)]⟩):=by
 rcases lt12 hW with rfl|rfl|rfl|rfl|rfl|rfl|rfl|rfl|rfl|rfl|rfl|rfl<;>kernel_rfl
def pz13:tReg zbi zT 13 ⟨[(2,bA 2 31)],[(2,⟨31,75,[nilOp],true⟩)]⟩=(some ⟨[(2,bA 2 31),(3,I 7)],[(2,⟨31,75,[nilOp],true⟩)]⟩):=by kernel_rfl
def pz14(c:GOp)(ws:List ByteArray)(W:Nat)(hW:W<12)(n:Int)(i:Int):tReg zbi zT 14 ⟨[(2,bA 2 31),(4,AV.sl 1 (List.map nStr ws)),(7,bA 7 31),(32,AV.row 32 2 0 (slotsC W).length),(33,I n),(34,I i)],[(2,⟨31,75,[nilOp],true⟩),(7,pT c),(32,⟨2,149,tsP W,true⟩)]⟩=(some ⟨[(2,bA 2 31),(4,AV.sl 1 (List.map nStr ws)),(7,bA 7 31),(32,AV.row 32 2 0 (slotsC W).length),(33,I n),(34,I (w64 (i+1)))],[(2,⟨31,75,[nilOp],true⟩),(7,pT c),(32,⟨2,149,tsP W,true⟩)]⟩):=by rcases lt12 hW with rfl|rfl|rfl|rfl|rfl|rfl|rfl|rfl|rfl|rfl|rfl|rfl<;>kernel_rfl
def pz15(c:GOp):tReg zbi zT 15 ⟨[(2,bA 2 31),(7,bA 7 31)],[(2,⟨31,75,[nilOp],true⟩),(7,pT c)]⟩=(some ⟨[(2,bA 2 31),(3,I 0)],[(2,pT c)]⟩):=by kernel_rfl
def pz16(ws:List ByteArray)(i:Int):tReg zbi zT 16 ⟨[(2,bA 2 31),(4,AV.sl 1 (List.map nStr ws)),(12,AV.agg (zd1.map AV.v)),(13,I i)],[(2,⟨31,75,[nilOp],true⟩)]⟩=(some ⟨[(2,bA 2 31),(4,AV.sl 1 (List.map nStr ws)),(12,AV.agg (zd1.map AV.v)),(13,I (w64 (i+1)))],[(2,⟨31,75,[nilOp],true⟩)]⟩):=by kernel_rfl
def pz17:tReg zbi zT 17 ⟨[(2,bA 2 31)],[(2,⟨31,75,[nilOp],true⟩)]⟩=(some ⟨[(2,bA 2 31),(3,I 7)],[(2,⟨31,75,[nilOp],true⟩)]⟩):=by kernel_rfl
def pz3(ws:List ByteArray)(i:Int):tReg zbi zT 3 ⟨[(2,bA 2 31),(4,AV.sl 1 (List.map nStr ws)),(12,AV.agg (zd1.map AV.v)),(13,I i)],[(2,⟨31,75,[nilOp],true⟩)]⟩=(some ⟨[(2,bA 2 31),(4,AV.sl 1 (List.map nStr ws)),(12,AV.agg (zd1.map AV.v)),(13,I i),(14,B (decide (i<12)))],[(2,⟨31,75,[nilOp],true⟩)]⟩):=by kernel_rfl
def pz5(ws:List ByteArray)(i:Int)(s:ByteArray)(n:Int):tReg zbi zT 5 ⟨[(2,bA 2 31),(4,AV.sl 1 (List.map nStr ws)),(5,I i),(6,bA 6 2),(12,AV.agg (zd1.map AV.v)),(13,I i)],[(2,⟨31,75,[nilOp],true⟩),(6,⟨2,140,[zgX (⟨s,n⟩)],true⟩)]⟩=(chk ((0:Int)<=0)<|
 elemD dStr (List.map nStr ws) (Int.toNat 0) λ(c0:ByteArray) =>
 some ⟨[(2,bA 2 31),(4,AV.sl 1 (List.map nStr ws)),(5,I i),(6,bA 6 2),(12,AV.agg (zd1.map AV.v)),(13,I i),(22,B (!s==c0))],[(2,⟨31,75,[nilOp],true⟩),(6,⟨2,140,[zgX (⟨s,n⟩)],true⟩)]⟩):=by kernel_rfl
def pz6(ws:List ByteArray)(i:Int)(s:ByteArray)(n:Int):tReg zbi zT 6 ⟨[(2,bA 2 31),(4,AV.sl 1 (List.map nStr ws)),(5,I i),(6,bA 6 2)],[(2,⟨31,75,[nilOp],true⟩),(6,⟨2,140,[zgX (⟨s,n⟩)],true⟩)]⟩=(some ⟨[(2,bA 2 31),(4,AV.sl 1 (List.map nStr ws)),(5,I i),(27,B ((↑(List.map nStr ws).length:Int) !=n))],[(2,⟨31,75,[nilOp],true⟩)]⟩):=by kernel_rfl
def pz7:tReg zbi zT 7 ⟨[(2,bA 2 31)],[(2,⟨31,75,[nilOp],true⟩)]⟩=(some ⟨[(2,bA 2 31),(3,I 7)],[(2,⟨31,75,[nilOp],true⟩)]⟩):=by kernel_rfl
def pz8(ws:List ByteArray)(i:Int):tReg zbi zT 8 ⟨[(2,bA 2 31),(4,AV.sl 1 (List.map nStr ws)),(5,I i)],[(2,⟨31,75,[nilOp],true⟩)]⟩=(callD zji (cw 40 [I i] []) λ(r0:GOp)=>some ⟨[(2,bA 2 31),(4,AV.sl 1 (List.map nStr ws)),(5,I i),(7,bA 7 31)],[(2,⟨31,75,[nilOp],true⟩),(7,pT r0)]⟩):=by kernel_rfl
def pz4(W:Nat)(hW:W<12)(ws:List ByteArray):tReg zbi zT 4 ⟨[(2,bA 2 31),(4,AV.sl 1 (List.map nStr ws)),(12,AV.agg (zd1.map AV.v)),(13,I W)],[(2,⟨31,75,[nilOp],true⟩)]⟩ =
  chk ((0:Int)<=(W:Nat)) (chk (((W:Nat):Int)<((12:Nat):Int)) (elemD zpS (List.map zgX (formsT.map λp=>⟨tx p.1,p.2⟩)) ((W:Nat):Int).toNat λ(c0:zgQ) =>
  some ⟨[(2,bA 2 31),(4,AV.sl 1 (List.map nStr ws)),(5,I W),(6,bA 6 2),(12,AV.agg (zd1.map AV.v)),(13,I W)],[(2,⟨31,75,[nilOp],true⟩),(6,⟨2,140,[zgX c0],true⟩)]⟩)):=by
 rcases lt12 hW with rfl|rfl|rfl|rfl|rfl|rfl|rfl|rfl|rfl|rfl|rfl|rfl<;>kernel_rfl
def pz11:∀(W i:Nat) (p:Bool×Nat),(slotsC W)[i]?=some p->∀(c:GOp) (ws:List ByteArray) (n:Int),tReg zbi zT 11 ⟨[(2,bA 2 31),(4,AV.sl 1 (List.map nStr ws)),(7,bA 7 31),(32,AV.row 32 2 0 (slotsC W).length),(33,I n),(34,I i)],[(2,⟨31,75,[nilOp],true⟩),(7,pT c),(32,⟨2,149,tsP W,true⟩)]⟩ =
  chk ((0:Int)<=(i:Nat)) (chk (((i:Nat):Int)<((slotsC W).length:Nat)) (some ⟨[(2,bA 2 31),(4,AV.sl 1 (List.map nStr ws)),(7,bA 7 31),(8,I i),(9,bA 9 2),(32,AV.row 32 2 0 (slotsC W).length),(33,I n),(34,I i)],[(2,⟨31,75,[nilOp],true⟩),(7,pT c),(9,⟨2,149,[if p.1 then[AV.v (.pointer none),AV.loc 7 31 0 p.2]else[AV.loc 7 31 0 p.2,AV.v (.pointer none)]],true⟩),(32,⟨2,149,tsP W,true⟩)]⟩)):=by
 intro W i p h c ws n
 have hW:W<12:=by
  rcases zcs W 12 with q|q
  .exact q
  .rw[show slotsC W=[]from by unfold slotsC;split<;>first|omega|rfl]at h;simp at h
 rcases lt12 hW with rfl|rfl|rfl|rfl|rfl|rfl|rfl|rfl|rfl|rfl|rfl|rfl
 all_goals
  match i,h with
  |0,h=>first|(cases h;done)|(injection h with h;subst h;show _=_;kernel_rfl)
  |1,h=>first|(cases h;done)|(injection h with h;subst h;show _=_;kernel_rfl)
  |2,h=>first|(cases h;done)|(injection h with h;subst h;show _=_;kernel_rfl)
  |3,h=>first|(cases h;done)|(injection h with h;subst h;show _=_;kernel_rfl)
  |4,h=>first|(cases h;done)|(injection h with h;subst h;show _=_;kernel_rfl)
  |5,h=>first|(cases h;done)|(injection h with h;subst h;show _=_;kernel_rfl)
  |6,h=>first|(cases h;done)|(injection h with h;subst h;show _=_;kernel_rfl)
  |i+7,h=>cases h
end Go.Proofs.YtcpnffbcljkbkaaGreatDoor
namespace Go.Ab
open Go.RowKit
variable[Dr]
section
variable{w0:World}{S0:aD}{κ0:Kap}{K:aD}{N:Nat}{S S':aD}{κ κ':Kap}{a:Act}{w w':World}{st st':St}{t:Tab}{m:Mem}
def NowP.perm{X:Sat2}(h:NowP w0 S0 κ0 K N X st a w)(ht:∀k,get st'.t k=get st.t k)(hm:∀b,look st'.m b=look st.m b):NowP w0 S0 κ0 K N X st' a w:=by
 obtain⟨S,κ,h1,h2⟩:=h;have e1:get st'.t=get st.t:=funext ht;have e2:look st'.m=look st.m:=funext hm;refine⟨S,κ,?_,?_⟩
 .show Good w0 S0 κ0 K N S κ (get st'.t) (look st'.m) a w;rw[e1,e2];exact h1
 .rw[e2];exact h2
def index_op{P:Program}{ops:aT}{Q:aX}{i d s x z:Nat}{t e:TypeId}{q:IntKind}{n:Int}{es:aS}{cs:aN}{X:Sat2}{K':aj}
  (ho:opIs ops i d (.indexAddr t (.tmp s) (.tmp x))) (ht:P.underlying t=some (.slice e)) (hz:szB P e=some z) (hd:d<N) (h:NowP w0 S0 κ0 K N X st a w) (hs:get st.t s=.sl z es) (hx:get st.t x=.v (.int q n))
  (h0:0<=n) (hc:es[n.toNat]?=some cs) (hK:∀a',NowP w0 S0 κ0 K N X { st with t:=(d,.fp cs)::st.t } a' w->K' a' w):wpOp P ops Q i K' a w:=by
 obtain⟨S,κ,h1,h2⟩:=h;obtain⟨o,o1,o2,o3,o4⟩:=ho.get;have hvs:=h1.slots s;have hvx:=h1.slots x;rw[hs]at hvs;rw[hx]at hvx
 have hi:aIndex P t (.sl z es) (.v (.int q n))=some { val:=.fp cs }:=by unfold aIndex;simp only[ht,hz,h0,hc,and_self,if_true]
 obtain⟨y,e1,e2,_⟩:=zu8 (w:=w) hi hvs hvx;refine zuU (w':=w) (y:=y) o1 o4 ?_ ?_
 .have:(Instr.indexAt t (a.eval (.tmp s)) (a.eval (.tmp x))).run P w=.ok y w:=e1;simp[execOp,o3,this]
 .rw[o2];exact hK _ ⟨S,κ,h1.put hd _ _ e2,h2⟩
def GoodS.reent(h:GoodS w0 S0 κ0 K N S κ ⟨t,m⟩ a w){B:Nat}{ent ent':Ent}(hB:look m B=some ent)(hE:EntAt S κ (λb=>(look m b).isSome=true) w (κ B) ent'):GoodS w0 S0 κ0 K N S κ ⟨t,repM (B,ent') m⟩ a w:=by
 have hlook:∀c,look (repM (B,ent') m) c=if c=B then some ent' else look m c:=λc=>ztc (B,ent') m c (by simp[hB])
 have hD:(λb=>(look (repM (B,ent') m) b).isSome=true)=λb=>(look m b).isSome=true:=by
  funext b;rw[hlook];by_cases hb:b=B
  .subst hb;simp[hB]
  .simp[hb]
 have hD':∀b,(look (repM (B,ent') m) b).isSome=true->(look m b).isSome=true:=λb hb=>by have:=congrFun hD b;exact this.mp hb
 exact{ h with
  parK:=λb hb hl=>h.parK b hb (hD' b hl)
  own:=λb g c hb hl hk=>h.own b g c hb (hD' b hl) hk
  inj:=λb b' g c c' hl hl' hk hk'=>h.inj b b' g c c' (hD' b hl) (hD' b' hl') hk hk'
  ents:=λb e hb=>by
   show EntAt S κ (λb=>(look (repM (B,ent') m) b).isSome=true) w (κ b) e;rw[hD];have hb':look (repM (B,ent') m) b=some e:=hb;rw[hlook]at hb';split at hb'
   .rename_i hbB;subst hbB;injection hb' with hb';subst hb';exact hE
   .exact h.ents b e hb'
  slots:=λk=>by
   show VRel S κ (λb=>(look (repM (B,ent') m) b).isSome=true) w _ _;rw[hD]
   exact h.slots k }
def EntAt.boxed{D:aD}{kb:ag}{z:Nat}{e:TypeId}{es es':aS}{κ':Kap}{D':aD}(h:EntAt S κ D w kb ⟨z,e,es,false⟩)(hz:0<z)(hne:es≠[])(hlen:es'.length=es.length)(hrow:∀cs∈es',cs.length=z)
  (hp:∀(i j:Nat) (cs cs':aN) (a':AV),es[i]?=some cs->es'[i]?=some cs'->cs'[j]?=some a'->∃a,cs[j]?=some a/\∀u,CRel S w a u->VRel S κ' D' w a' u):EntAt S κ' D' w kb ⟨z,e,es',true⟩:=by
 obtain⟨h1,h2⟩:=h.1 (.inr hz);refine EntAt.of (.inl rfl) ⟨hrow,?_⟩
 cases kb with
 |none=>exact absurd h2.1 hne
 |some gc =>
   obtain⟨g,c⟩:=gc;obtain⟨cells,c1,c2,c3,c4,c5,c6⟩:=h2;refine⟨cells,c1,c2,by rw[hlen];exact c3,c4,c5,λi j cs' a' hi hj=>?_⟩;have hil:i<es.length:=by rw[<-hlen];exact(zal.1 hi).1
   obtain⟨x,hx,hr⟩:=hp i j _ cs' a' (zaa hil) hi hj;obtain⟨u,u1,u2,_,u4⟩:=c6 i j _ x (zaa hil) hx;exact⟨u,u1,u2,λ_=>hr u (u4 rfl),λhb=>by cases hb⟩
def CRel.view{z:Nat}{es es':aS}{v:Value}(h:CRel S w (.sl z es) v)(hlen:es'.length=es.length)(hrow:∀cs∈es',cs.length=z)
  (hp:∀(i j:Nat) (cs cs':aN) (a':AV),es[i]?=some cs->es'[i]?=some cs'->cs'[j]?=some a'->∃a,cs[j]?=some a/\∀u,CRel S w a u->CRel S w a' u):CRel S w (.sl z es') v:=by
 cases h with
 |sl _ _ A len cap u h1 h2 h3 h4 h5 =>
   have hat:∀(i j:Nat) (cs':aN) (a':AV),es'[i]?=some cs'->cs'[j]?=some a'->∃cs a,es[i]?=some cs/\cs[j]?=some a/\∀u,CRel S w a u->CRel S w a' u:=λi j cs' a' hi hj=>by
    have hil:i<es.length:=by rw[<-hlen];exact(zal.1 hi).1
    obtain⟨x,hx,hr⟩:=hp i j _ cs' a' (zaa hil) hi hj;exact⟨_,x,zaa hil,hx,hr⟩
   refine .sl z es' A len cap u (by rw[hlen];exact h1) h2 hrow ?_ (λi j cs' a' hi hj=>?_)
   . rcases h4 with h4|⟨ad,e1,e2,e3⟩
     .left;subst h4;exact zcr (by simpa using hlen)
     .exact .inr ⟨ad,e1,e2,λi j cs' a' hi hj=>by
        obtain⟨cs,x,q1,q2,_⟩:=hat i j cs' a' hi hj
        exact e3 i j cs x q1 q2⟩
   .obtain⟨cs,x,q1,q2,q3⟩:=hat i j cs' a' hi hj;exact q3 _ (h5 i j cs x q1 q2)
def CRel.cell{cs:aN}{g k:Nat}{x:AV}(h:CRel S w (.fp cs) (.pointer (some ⟨g,0,none⟩)))(hx:cs[k]?=some x):CRel S w (.fp [x]) (.pointer (some ⟨g,k,none⟩)):=by
 cases h with
 |fp _ _ u hS hc hr =>
   refine .fp _ _ (λ_=>u k) hS (λj c hj=>?_) (λj c hj=>?_)
   . match j,hj with
     |0,hj =>
       have:=hc k x hx;rw[show(⟨g,k,none⟩:Addr).add 0=⟨g,k,none⟩from rfl]
       rwa[add_at,zaI]at this
     |j+1,hj=>simp at hj
   . match j,hj with
     |0,hj=>injection hj with hj;subst hj;exact hr k x hx
     |j+1,hj=>simp at hj
def Stable.both{X Y:Sat2}(hX:Stable X)(hY:Stable Y):Stable λS κ L w=>X S κ L w/\Y S κ L w:=
 ⟨λh h1 h2 h3=>⟨hX.step h.1 h1 h2 h3,hY.step h.2 h1 h2 h3⟩,λh h1=>⟨hX.kap h.1 h1,hY.kap h.2 h1⟩⟩
def Stable.lasts(cs:AV)(v:Value):Stable λS _ _ w=>CRel S w cs v:=
 ⟨λh h1 _ h3=>h.mono h1 h3,λh _=>h⟩
def Away(w0:World)(κ0:Kap)(K:aD)(B:Nat)(e:Ent)(g:Nat)(κd:Kap):Sat2:=λS κ L w=>FarObj S w κd (look [(B,e)])/\Far S κ L w g/\Mine w0 κ0 K g
def zvw{B:Nat}{e:Ent}{b:Nat}(h:(look [(B,e)] b).isSome=true):b=B:=by
 simp only[look]at h;split at h
 .assumption
 .cases h
def Away.stable{B:Nat}{e:Ent}{g c:Nat}{κd:Kap}(hk:κd B=some (g,c)):Stable (Away w0 κ0 K B e g κd):=by
 refine⟨λh h1 h2 h3=>?_,λh h1=>⟨h.1,⟨h.2.1.1,h.2.1.2.1,λb c' hl hb=>?_⟩,h.2.2⟩⟩
 .obtain⟨q1,q2⟩:=h2 g h.2.1;refine⟨h.1.mono h1 h3 (λb g' c' hl hb=>?_),q2,h.2.2⟩;rw[zvw hl,hk]at hb;injection hb with hb;injection hb with hb _;subst hb;exact⟨q1,q2.2.1⟩
 .obtain⟨b0,c0,e1,e2⟩:=h1 b g c' hl hb;exact h.2.1.2.2 b0 c0 e1 e2
def NowP.leave{B z k:Nat}{e:Ent}(h:NowP w0 S0 κ0 K N (λ_ _ _ _=>True) st a w)(hB:look st.m B=some e)(hB2:B<1000)(ho:onlyM [(B,e)]=true)(hk:get st.t k=.loc B z 0 0):∃g c κd,κd B=some (g,c)/\a.tmps.getD k undef=.pointer (some ⟨g,0,none⟩)/\NowP w0 S0 κ0 K N (Away w0 κ0 K B e g κd) (del B st) a w:=by
 obtain⟨S,κ,h1,_⟩:=h;have hv:=h1.slots k;rw[hk]at hv;obtain⟨g,c,hd,hκ,e1⟩:=hv.loc_inv
 have hd1:∀b ent,look [(B,e)] b=some ent->look st.m b=some ent:=λb ent hb=>by have:=zvw (B:=B) (e:=e) (b:=b) (by simp[hb]);subst this;simp only[look,if_true]at hb;rw[hB];exact hb
 have hlook:∀b,look (del B st).m b=killL B (look st.m) b:=λb=>ziW B st.m b
 have hL:∀b,(look (del B st).m b).isSome=true->(look st.m b).isSome=true/\¬(look [(B,e)] b).isSome=true:=λb hb=>by
  rw[hlook]at hb;unfold killL at hb;split at hb
  .cases hb
  . rename_i hne;refine⟨?_,λq=>hne (zvw q)⟩
    cases hq:look st.m b with
    |none=>rw[hq]at hb;cases hb
    |some _=>rfl
 have hfar:=(h1:Good w0 S0 κ0 K N S κ (get st.t) (look st.m) a w).thingFar hd1 hL B g c (by simp[look]) hκ;refine⟨g,c,κ,hκ,?_,S,κ,h1.del B,(h1:Good w0 S0 κ0 K N S κ (get st.t) (look st.m) a w).thing hd1 (zLw ho),hfar.1,hfar.2 hB2⟩;rw[e1];simp
def NowP.back{B g c:Nat}{e:Ent}{κd:Kap}{X:Sat2}(h:NowP w0 S0 κ0 K N (λS κ L w=>Away w0 κ0 K B e g κd S κ L w/\X S κ L w) st a w)(hk:κd B=some (g,c))(hB2:B<1000)(hn:look st.m B=none):∃S κ,GoodS w0 S0 κ0 K N S κ ⟨st.t,(B,e)::st.m⟩ a w/\κ B=some (g,c)/\∃κ1,X S κ1 (look st.m) w:=by
 obtain⟨S,κ,h1,h2,h3⟩:=h
 have hg:=GoodS.focus (t:=st.t) (m:=st.m) (md:=[(B,e)]) h1 h2.1 (λb hb=>by rw[zvw hb];exact⟨hB2,hn⟩) (λb g' c' hb hkb=>by
  rw[zvw hb,hk]at hkb;injection hkb with hkb;injection hkb with e1 _;subst e1
  exact⟨h2.2.1,h2.2.2⟩)
 refine⟨S,_,hg,?_,κ,h3⟩;unfold overK;rw[if_pos (by simp[look])];exact hk
end
end Go.Ab
namespace Go.Proofs.YtcpnffbcljkbkaaGreatDoor
open Go.Ab Go.Str
set_option maxRecDepth 100000
def fmC:Code:=(za3.fn.body).getD .skip
def fmO(j:Nat):Array Oper:=opsAt j fmC
def fmD(j:Nat):Bool:=zBy j fmC
def fm_hb:za3.fn.body=some fmC:=by kernel_rfl
theorem fm_shape:fmC=(.seq (.region 0 (fmO 0) (fmD 0)) (.seq (.region 1 (fmO 1) (fmD 1)) (.seq (.seq (.region 2 (fmO 2) (fmD 2)) (.cond (.tmp 16) (.seq (.region 3 (fmO 3) (fmD 3)) .ret) .skip)) (.seq (.region 4 (fmO 4) (fmD 4)) (.seq (.region 5 (fmO 5) false) (.seq (.region 6 (fmO 6) false) (.seq (.seq (.region 7 (fmO 7) (fmD 7)) (.block 0 (.loop (.seq (.region 8 (fmO 8) (fmD 8)) (.seq (.cond (.tmp 31) .skip (.exit 0)) (.seq (.block 1 (.seq (.region 9 (fmO 9) false) (.seq (.region 10 (fmO 10) (fmD 10)) (.seq (.seq (.region 11 (fmO 11) (fmD 11)) (.cond (.tmp 41) (.seq (.region 12 (fmO 12) (fmD 12)) .ret) .skip)) (.seq (.region 13 (fmO 13) (fmD 13)) (.seq (.region 14 (fmO 14) (fmD 14)) (.cond (.tmp 48) (.region 15 (fmO 15) (fmD 15)) (.region 16 (fmO 16) (fmD 16))))))))) (.region 17 (fmO 17) (fmD 17)))))))) (.seq (.seq (.region 18 (fmO 18) (fmD 18)) (.cond (.tmp 73) (.seq (.region 19 (fmO 19) (fmD 19)) .ret) .skip)) (.seq (.region 20 (fmO 20) (fmD 20)) .ret))))))))):=by kernel_rfl
def fm_r0:regOf 0 fmC=some (.region 0 (fmO 0) (fmD 0)):=by kernel_rfl
def fm_r1:regOf 1 fmC=some (.region 1 (fmO 1) (fmD 1)):=by kernel_rfl
def fm_r2:regOf 2 fmC=some (.region 2 (fmO 2) (fmD 2)):=by kernel_rfl
def fm_r3:regOf 3 fmC=some (.region 3 (fmO 3) (fmD 3)):=by kernel_rfl
def fm_r4:regOf 4 fmC=some (.region 4 (fmO 4) (fmD 4)):=by kernel_rfl
def fm_r5:regOf 5 fmC=some (.region 5 (fmO 5) false):=by kernel_rfl
def fm_r6:regOf 6 fmC=some (.region 6 (fmO 6) false):=by kernel_rfl
def fm_r7:regOf 7 fmC=some (.region 7 (fmO 7) (fmD 7)):=by kernel_rfl
def fm_r8:regOf 8 fmC=some (.region 8 (fmO 8) (fmD 8)):=by kernel_rfl
def fm_r9:regOf 9 fmC=some (.region 9 (fmO 9) false):=by kernel_rfl
def fm_r10:regOf 10 fmC=some (.region 10 (fmO 10) (fmD 10)):=by kernel_rfl
def fm_r11:regOf 11 fmC=some (.region 11 (fmO 11) (fmD 11)):=by kernel_rfl
def fm_r12:regOf 12 fmC=some (.region 12 (fmO 12) (fmD 12)):=by kernel_rfl
def fm_r13:regOf 13 fmC=some (.region 13 (fmO 13) (fmD 13)):=by kernel_rfl
def fm_r14:regOf 14 fmC=some (.region 14 (fmO 14) (fmD 14)):=by kernel_rfl
def fm_r15:regOf 15 fmC=some (.region 15 (fmO 15) (fmD 15)):=by kernel_rfl
def fm_r16:regOf 16 fmC=some (.region 16 (fmO 16) (fmD 16)):=by kernel_rfl
def fm_r17:regOf 17 fmC=some (.region 17 (fmO 17) (fmD 17)):=by kernel_rfl
def fm_r18:regOf 18 fmC=some (.region 18 (fmO 18) (fmD 18)):=by kernel_rfl
def fm_r19:regOf 19 fmC=some (.region 19 (fmO 19) (fmD 19)):=by kernel_rfl
def fm_r20:regOf 20 fmC=some (.region 20 (fmO 20) (fmD 20)):=by kernel_rfl
def fm_n:za3.fn.ntmps<=1000:=by decide
def fm_enters:enters za3.P 13=true:=by kernel_rfl
def fsA(w:Nat)(o:GOp):List (List AV):=(slotsC w).map λp=>if p.1 then[.v (.pointer none),.fp [.sl 1 (List.map zaj (getL p.2 o))]]else[.fp [I (getN p.2 o)],.v (.pointer none)]
abbrev stF(o c:GOp)(W:Nat)(ws:List ByteArray)(i:Int):St:=⟨[(1,AV.fp (nGOp o)),(5,bA 5 31),(7,AV.row 22 2 0 (slotsC W).length),(8,bB 8 1 (List.map nStr ws)),(28,AV.sl 2 (fsA W o)),(29,I (slotsC W).length),(30,I i)],[(5,pT c),(8,⟨1,9,List.map nStr ws,false⟩),(22,⟨2,149,tsA W,true⟩)]⟩
abbrev stBad:St:=⟨[(2,.v (.string (tx []))),(3,I 1)],[]⟩
abbrev X0:Sat2:=λ_ _ _ _=>True
def fm12:tReg za3 zT 12 ⟨[],[]⟩=some stBad:=by kernel_rfl
section
variable{w0:World}{S0:aD}{κ0:Kap}{K:aD}{a:Act}{w:World}
def fmStep{j:Nat}{st st':St}(hr:regOf j fmC=some (.region j (fmO j) (fmD j)))(ht:tReg za3 zT j st=some st')
  (h:NowP w0 S0 κ0 K za3.fn.ntmps X0 st a w) {Q:aX} (hQ:∀a' w',NowP w0 S0 κ0 K za3.fn.ntmps X0 st' a' w'->Q .normal a' w'):(Code.region j (fmO j) (fmD j)).wp za3.P Q a w:=stepP Stable.none fm_hb fm_n hr ht h hQ
def fm9_0(o c:GOp)(W:Nat)(hW:W<12)(ws:List ByteArray)(i:Int):tSeg za3 zT 9 0 1 (stF o c W ws i)=some ⟨(32,I i)::(stF o c W ws i).t,(stF o c W ws i).m⟩:=by rcases lt12 hW with rfl|rfl|rfl|rfl|rfl|rfl|rfl|rfl|rfl|rfl|rfl|rfl<;>kernel_rfl
abbrev fmBody:Code:=.seq (.region 9 (fmO 9) false) (.seq (.region 10 (fmO 10) (fmD 10)) (.seq (.seq (.region 11 (fmO 11) (fmD 11)) (.cond (.tmp 41) (.seq (.region 12 (fmO 12) (fmD 12)) .ret) .skip)) (.seq (.region 13 (fmO 13) (fmD 13)) (.seq (.region 14 (fmO 14) (fmD 14)) (.cond (.tmp 48) (.region 15 (fmO 15) (fmD 15)) (.region 16 (fmO 16) (fmD 16)))))))
def map_str(ws:List ByteArray)(s:ByteArray):List.map nStr ws++[[AV.v (.string s)]]=List.map nStr (ws++[s]):=by simp[nStr]
def map_str2(ws:List ByteArray)(s:ByteArray):List.map nStr ws++[nStr s]=List.map nStr (ws++[s]):=by simp
def fm_round(o c:GOp)(W:Nat)(hW:W<12)(ws:List ByteArray)(i:Nat)(hws:ws.length<1000)(p:Bool×Nat)(hp:(slotsC W)[i]?=some p)
  (hN:p.1=false->W64 (getN p.2 o)) (hL:p.1=true->(getL p.2 o).length<=1000/\∀n∈getL p.2 o,W64 n)
  (h:NowP w0 S0 κ0 K za3.fn.ntmps X0 (stF o c W ws i) a w) {Q:aX}
  (hok:okW o p->∀a' w',NowP w0 S0 κ0 K za3.fn.ntmps X0 (stF o (copy1 o c p) W (ws++[tx (wordC o p)]) i) a' w'->Q .normal a' w')
  (hbad:¬okW o p->∀a' w',NowP w0 S0 κ0 K za3.fn.ntmps X0 stBad a' w'->Q .ret a' w'):fmBody.wp za3.P Q a w:=by
 have hil:i<(slotsC W).length:=(zal.1 hp).1;have hi2:((i:Nat):Int).toNat=i:=rfl;obtain⟨pl,off⟩:=p;refine wp_seq (wp_region ?_);have z9:(fmO 9).size=6:=by kernel_rfl
 rw[z9,show List.range 6=List.range' 0 1++(1::(List.range' 2 4++[]))from rfl];refine segP Stable.none fm_hb fm_n fm_r9 (fm9_0 o c W hW ws i) (by rw[z9];decide) h (λa1 w1 h1=>?_);rw[wpOps_cons]
 cases pl with
 |false =>
   have hf:(fsA W o)[((i:Nat):Int).toNat]?=some [.fp [I (getN off o)],.v (.pointer none)]:=by unfold fsA;rw[hi2,zbv,hp];rfl
   refine index_op (t:=143) (e:=149) (z:=2) (s:=28) (x:=30) (d:=33) (by unfold opIs;kernel_rfl) (by kernel_rfl) (by kernel_rfl) (by decide) h1 rfl rfl (by omega) hf (λa2 h2=>?_);have h3:=h2.trim Stable.none [1,5,7,8,28,29,30,32,33] [] (by kernel_rfl) (st':=⟨[(1,AV.fp (nGOp o)),(5,bA 5 31),(7,AV.row 22 2 0 (slotsC W).length),(8,bB 8 1 (List.map nStr ws)),(28,AV.sl 2 (fsA W o)),(29,I (slotsC W).length),(30,I i),(32,I i),(33,AV.fp [AV.fp [I (getN off o)],AV.v (.pointer none)])],(stF o c W ws i).m⟩);refine segP Stable.none fm_hb fm_n fm_r9 (fm9n o c (fsA W o) W hW ws (slotsC W).length i (getN off o)) (by rw[z9];decide) h3 (λa4 w4 h4=>?_);have h5:=h4.trim Stable.none [1,5,7,8,9,10,28,29,30] [] (st':=⟨[(1,AV.fp (nGOp o)),(5,bA 5 31),(7,AV.row 22 2 0 (slotsC W).length),(8,bB 8 1 (List.map nStr ws)),(9,I i),(10,bA 10 2),(28,AV.sl 2 (fsA W o)),(29,I (slotsC W).length),(30,I i)],[(5,pT c),(8,⟨1,9,List.map nStr ws,false⟩),(10,⟨2,149,[[AV.fp [I (getN off o)],AV.v (.pointer none)]],true⟩),(22,⟨2,149,tsA W,true⟩)]⟩) (by kernel_rfl);have t10:=fm10n o c (fsA W o) W hW ws (slotsC W).length i (getN off o);rw[c_textN (hN rfl),zh9]at t10;refine wp_seq (fmStep fm_r10 t10 h5 (λa6 w6 h6=>?_));refine wp_seq (wp_seq (fmStep fm_r11 (fm11n o c (fsA W o) W hW ws (slotsC W).length i (getN off o) _ _) h6 (λa7 w7 h7=>?_)));refine wp_cond (h7.bool (b:=!decide (fits (getN off o))) rfl) ?_;by_cases hk:okW o (false,off)
   .rw[show decide (fits (getN off o))=true from decide_eq_true hk,zaS,iNs];refine wp_skip ?_;have h8:=h7.trim Stable.none [1,5,7,8,9,10,11,28,29,30] [] rfl;have t13:=fm13n o c (fsA W o) W hW ws (slotsC W).length i (getN off o) (tx (Lib.itoa (getN off o)));rw[zam rfl,zam (by rw[zab];omega),zam rfl]at t13;refine wp_seq (fmStep fm_r13 t13 h8 (λa9 w9 h9=>?_));simp only[map_str]at h9;simp only[map_str2]at h9;refine wp_seq (fmStep fm_r14 (fm14n o c (fsA W o) W hW _ (slotsC W).length i (getN off o)) h9 (λaA wA hA=>?_));refine wp_cond (hA.bool (b:=!true) rfl) ?_;rw[iNs];have hB:=hA.trim Stable.none [1,5,7,8,9,10,28,29,30] [] rfl;have t16:=fm16 W i off hp o c (fsA W o) (ws++[tx (Lib.itoa (getN off o))]) (slotsC W).length (getN off o);rw[cPQ,cPQ]at t16;exact fmStep fm_r16 t16 hB (λaC wC hC=>hok hk aC wC (by simpa only[zK,copy1,wordC,if_true]using hC))
   .rw[show decide (fits (getN off o))=false from decide_eq_false hk,zbe,if_pos rfl];have h8:=h7.trim Stable.none [] [5,8,10,22] (st':=⟨[],[]⟩) (by kernel_rfl);exact wp_seq (fmStep fm_r12 fm12 h8 (λaC wC hC=>wp_ret (hbad hk aC wC hC)))
 |true =>
   have hf:(fsA W o)[((i:Nat):Int).toNat]?=some [.v (.pointer none),.fp [.sl 1 (List.map zaj (getL off o))]]:=by unfold fsA;rw[hi2,zbv,hp];rfl
   refine index_op (t:=143) (e:=149) (z:=2) (s:=28) (x:=30) (d:=33) (by unfold opIs;kernel_rfl) (by kernel_rfl) (by kernel_rfl) (by decide) h1 rfl rfl (by omega) hf (λa2 h2=>?_);have h3:=h2.trim Stable.none [1,5,7,8,28,29,30,32,33] [] (by kernel_rfl) (st':=⟨[(1,AV.fp (nGOp o)),(5,bA 5 31),(7,AV.row 22 2 0 (slotsC W).length),(8,bB 8 1 (List.map nStr ws)),(28,AV.sl 2 (fsA W o)),(29,I (slotsC W).length),(30,I i),(32,I i),(33,AV.fp [AV.v (.pointer none),AV.fp [AV.sl 1 (List.map zaj (getL off o))]])],(stF o c W ws i).m⟩);refine segP Stable.none fm_hb fm_n fm_r9 (fm9l o c (fsA W o) W hW ws (slotsC W).length i (getL off o)) (by rw[z9];decide) h3 (λa4 w4 h4=>?_);obtain⟨sx,hs1,hs2⟩:=c_textL (getL off o) (hL rfl).1 (hL rfl).2;have h5:=h4.trim Stable.none [1,5,7,8,9,10,28,29,30] [] (st':=⟨[(1,AV.fp (nGOp o)),(5,bA 5 31),(7,AV.row 22 2 0 (slotsC W).length),(8,bB 8 1 (List.map nStr ws)),(9,I i),(10,bA 10 2),(28,AV.sl 2 (fsA W o)),(29,I (slotsC W).length),(30,I i)],[(5,pT c),(8,⟨1,9,List.map nStr ws,false⟩),(10,⟨2,149,[[AV.v (.pointer none),AV.fp [AV.sl 1 (List.map zaj (getL off o))]]],true⟩),(22,⟨2,149,tsA W,true⟩)]⟩) (by kernel_rfl);have t10:=fm10l o c (fsA W o) W hW ws (slotsC W).length i (getL off o);rw[hs1,zh9]at t10;refine wp_seq (fmStep fm_r10 t10 h5 (λa6 w6 h6=>?_));refine wp_seq (wp_seq (fmStep fm_r11 (fm11l o c (fsA W o) W hW ws (slotsC W).length i (getL off o) _ _) h6 (λa7 w7 h7=>?_)));refine wp_cond (h7.bool (b:=!decide ((getL off o).length<=300/\∀n∈getL off o,fits n)) rfl) ?_;by_cases hk:okW o (true,off)
   .rw[show decide ((getL off o).length<=300/\∀n∈getL off o,fits n)=true from decide_eq_true hk,zaS,iNs];refine wp_skip ?_;have h8:=h7.trim Stable.none [1,5,7,8,9,10,11,28,29,30] [] rfl;have t13:=fm13l o c (fsA W o) W hW ws (slotsC W).length i (getL off o) (sx);rw[zam rfl,zam (by rw[zab];omega),zam rfl]at t13;refine wp_seq (fmStep fm_r13 t13 h8 (λa9 w9 h9=>?_));simp only[map_str]at h9;simp only[map_str2]at h9;refine wp_seq (fmStep fm_r14 (fm14l o c (fsA W o) W hW _ (slotsC W).length i (getL off o)) h9 (λaA wA hA=>?_));refine wp_cond (hA.bool (b:=true) rfl) ?_;rw[if_pos rfl];have hB:=hA.trim Stable.none [1,5,7,8,9,10,28,29,30] [] rfl;have t16:=fm15 W i off hp o c (fsA W o) (ws++[sx]) (slotsC W).length (getL off o);rw[cPQ,cPQ]at t16;exact fmStep fm_r15 t16 hB (λaC wC hC=>hok hk aC wC (by simpa only[zK,copy1,wordC,if_true,hs2 hk]using hC))
   .rw[show decide ((getL off o).length<=300/\∀n∈getL off o,fits n)=false from decide_eq_false hk,zbe,if_pos rfl];have h8:=h7.trim Stable.none [] [5,8,10,22] (st':=⟨[],[]⟩) (by kernel_rfl);exact wp_seq (fmStep fm_r12 fm12 h8 (λaC wC hC=>wp_ret (hbad hk aC wC hC)))
def wsA(W:Nat)(o:GOp)(i:Nat):List ByteArray:=tx (kw W)::((slotsC W).take i).map λp=>tx (wordC o p)
def cpA(W:Nat)(o:GOp)(i:Nat):GOp:=((slotsC W).take i).foldl (copy1 o) (blankS W)
def zws(W:Nat):(slotsC W).length<=7:=by unfold slotsC;split<;>decide
def wsA_succ{W:Nat}{o:GOp}{i:Nat}{p:Bool×Nat}(hp:(slotsC W)[i]?=some p):wsA W o (i+1)=wsA W o i++[tx (wordC o p)]:=by unfold wsA;rw[zdi,hp];simp
def cpA_succ{W:Nat}{o:GOp}{i:Nat}{p:Bool×Nat}(hp:(slotsC W)[i]?=some p):cpA W o (i+1)=copy1 o (cpA W o i) p:=by unfold cpA;rw[zdi,hp];simp
abbrev stE(o c:GOp)(ws:List ByteArray):St:=⟨[(1,AV.fp (nGOp o)),(5,bA 5 31),(8,bB 8 1 (List.map nStr ws))],[(5,pT c),(8,⟨1,9,List.map nStr ws,false⟩)]⟩
def fm_loop(o:GOp)(ho:OpW o)(W:Nat)(hW:W<12)
  (h:NowP w0 S0 κ0 K za3.fn.ntmps X0 ⟨[(1,AV.fp (nGOp o)),(5,bA 5 31),(6,AV.sl 2 (fsA W o)),(7,AV.row 22 2 0 (slotsC W).length),(8,bB 8 1 (List.map nStr (wsA W o 0)))],[(5,pT (cpA W o 0)),(8,⟨1,9,List.map nStr (wsA W o 0),false⟩),(22,⟨2,149,tsA W,true⟩)]⟩ a w) {Q:aX}
  (hok:(∀p∈slotsC W,okW o p)->∀a' w',NowP w0 S0 κ0 K za3.fn.ntmps X0 (stE o (copyS W o) (wsA W o (slotsC W).length)) a' w'->Q .normal a' w')
  (hbad:¬(∀p∈slotsC W,okW o p)->∀a' w',NowP w0 S0 κ0 K za3.fn.ntmps X0 stBad a' w'->Q .ret a' w'):(Code.seq (.region 7 (fmO 7) (fmD 7)) (.block 0 (.loop (.seq (.region 8 (fmO 8) (fmD 8)) (.seq (.cond (.tmp 31) .skip (.exit 0)) (.seq (.block 1 fmBody) (.region 17 (fmO 17) (fmD 17)))))))).wp za3.P Q a w:=by
 have hlen:=zws W;have hfl:(fsA W o).length=(slotsC W).length:=by unfold fsA;rw[zab]
 refine wp_seq (fmStep fm_r7 (fm7 o (cpA W o 0) (fsA W o) W hW (wsA W o 0)) h (λa1 w1 h1=>?_));rw[hfl]at h1;refine wp_block (wp_loop (λa w=>∃k:Nat,k<=(slotsC W).length/\(∀p∈(slotsC W).take k,okW o p)/\NowP w0 S0 κ0 K za3.fn.ntmps X0 (stF o (cpA W o k) W (wsA W o k) k) a w) (λa _=>(slotsC W).length-cnt a 30) ⟨0,zcT _,by simp,h1⟩ ?_)
 rintro a w ⟨k,hk,hall,hn⟩
 have hc0:cnt a 30=k:=by rw[hn.cnt (n:=(k:Int)) rfl];simp
 refine wp_seq (fmStep fm_r8 (fm8 o (cpA W o k) (fsA W o) W hW (wsA W o k) (slotsC W).length k) hn (λa2 w2 h2=>?_));refine wp_seq (wp_cond (h2.bool (b:=decide ((k:Int)<(slotsC W).length)) rfl) ?_);by_cases hlt:k<(slotsC W).length
 . rw[decide_eq_true (by omega),if_pos rfl];refine wp_skip ?_;have h3:=h2.trim Stable.none [1,5,7,8,28,29,30] [] (st':=stF o (cpA W o k) W (wsA W o k) k) (by kernel_rfl);have hp:(slotsC W)[k]?=some (slotsC W)[k]:=zaa hlt;refine wp_seq (wp_block (fm_round o (cpA W o k) W hW (wsA W o k) k (by unfold wsA;simp;omega) (slotsC W)[k] hp (λ_=>ho.num _) (λ_=>ho.list _) h3 (λhok1 a4 w4 h4=>?_) (λhbad1 a4 w4 h4=>?_)))
   . rw[<-cpA_succ hp,<-wsA_succ hp]at h4;refine fmStep fm_r17 (fm17 o (cpA W o (k+1)) (fsA W o) W hW (wsA W o (k+1)) (slotsC W).length k) h4 (λa5 w5 h5=>?_);rw[w6Q]at h5;refine⟨⟨k+1,hlt,?_,by exact_mod_cast h5⟩,?_⟩
     . intro p hm;rw[zdi,hp]at hm;rcases zaX.1 hm with hm|hm
       .exact hall p hm
       . have:p=(slotsC W)[k]:=by simpa using hm
         rw[this];exact hok1
     . have:cnt a5 30=k+1:=by rw[h5.cnt (n:=(k:Int)+1) rfl];omega
       show(slotsC W).length-cnt a5 30<(slotsC W).length-cnt a 30;omega
   .exact hbad (λq=>hbad1 (q _ (zaq hlt))) a4 w4 h4
 . rw[decide_eq_false (by omega),iNs];have hkl:k=(slotsC W).length:=by omega
   subst hkl;rw[zbn]at hall;have e:cpA W o (slotsC W).length=copyS W o:=by unfold cpA copyS;rw[zbn]
   rw[e]at h2;exact wp_exit (hok hall _ _ (h2.trim Stable.none [1,5,8] [22] (by kernel_rfl)))
def fsA_cell{W i off:Nat}{b:Bool}(h:(slotsC W)[i]?=some (b,off))(o:GOp):(nGOp o)[off]?=some (if b then .sl 1 (List.map zaj (getL off o))else I (getN off o)):=by
 have hW:W<12:=by
  rcases zcs W 12 with q|q
  .exact q
  .rw[show slotsC W=[]from by unfold slotsC;split<;>first|omega|rfl]at h;simp at h
 rcases lt12 hW with rfl|rfl|rfl|rfl|rfl|rfl|rfl|rfl|rfl|rfl|rfl|rfl
 all_goals
  match i,h with
  |0,h=>first|(cases h;done)|(injection h with h;injection h with h1 h2;subst h1;subst h2;rfl)
  |1,h=>first|(cases h;done)|(injection h with h;injection h with h1 h2;subst h1;subst h2;rfl)
  |2,h=>first|(cases h;done)|(injection h with h;injection h with h1 h2;subst h1;subst h2;rfl)
  |3,h=>first|(cases h;done)|(injection h with h;injection h with h1 h2;subst h1;subst h2;rfl)
  |4,h=>first|(cases h;done)|(injection h with h;injection h with h1 h2;subst h1;subst h2;rfl)
  |5,h=>first|(cases h;done)|(injection h with h;injection h with h1 h2;subst h1;subst h2;rfl)
  |6,h=>first|(cases h;done)|(injection h with h;injection h with h1 h2;subst h1;subst h2;rfl)
  |i+7,h=>cases h
def slots_ne{W:Nat}(hW:W<12):slotsC W≠[]:=by rcases lt12 hW with rfl|rfl|rfl|rfl|rfl|rfl|rfl|rfl|rfl|rfl|rfl|rfl<;>exact List.cons_ne_nil _ _
def view_from{S:aD}{w:World}{W g:Nat}{o:GOp}{v:Value}(hfp:CRel S w (.fp (nGOp o)) (.pointer (some ⟨g,0,none⟩)))(h:CRel S w (.sl 2 (mF (slotsS W g))) v):CRel S w (.sl 2 (fsA W o)) v:=by
 refine h.view (by unfold fsA slotsS;simp) (λcs hcs=>?_) (λi j cs cs' a' hi hi' hj=>?_)
 .unfold fsA at hcs;obtain⟨p,_,rfl⟩:=zbf.1 hcs;split<;>rfl
 . unfold fsA at hi';unfold slotsS at hi;rw[zbv]at hi';simp only[zfX]at hi;rw[zbv]at hi
   cases hp:(slotsC W)[i]? with
   |none=>rw[hp]at hi';cases hi'
   |some p =>
     obtain⟨b,off⟩:=p;rw[hp]at hi hi';injection hi with hi;injection hi' with hi';subst hi;subst hi';have hcell:=fsA_cell hp o
     cases b with
     |false =>
       match j,hj with
       |0,hj=>injection hj with hj;subst hj;refine⟨_,rfl,λu hu=>?_⟩;cases hu;exact hfp.cell hcell
       |1,hj=>injection hj with hj;subst hj;exact⟨_,rfl,λu hu=>hu⟩
       |j+2,hj=>simp at hj
     |true =>
       match j,hj with
       |0,hj=>injection hj with hj;subst hj;exact⟨_,rfl,λu hu=>hu⟩
       |1,hj=>injection hj with hj;subst hj;refine⟨_,rfl,λu hu=>?_⟩;cases hu;exact hfp.cell hcell
       |j+2,hj=>simp at hj
def view_to{S:aD}{κ:Kap}{D D':aD}{w:World}{kb:ag}{W g c:Nat}{e:TypeId}(hW:W<12)(hk:κ 5=some (g,c))(hd:D' 5)(h:EntAt S κ D w kb ⟨2,e,mF (slotsS W g),false⟩):EntAt S κ D' w kb ⟨2,e,tsA W,true⟩:=by
 refine h.boxed (by decide) (λq=>slots_ne hW (by unfold slotsS at q;simpa using q)) (by unfold tsA slotsS;simp) (λcs hcs=>?_) (λi j cs cs' a' hi hi' hj=>?_)
 .unfold tsA at hcs;obtain⟨p,_,rfl⟩:=zbf.1 hcs;split<;>rfl
 . unfold tsA at hi';unfold slotsS at hi;rw[zbv]at hi';simp only[zfX]at hi;rw[zbv]at hi
   cases hp:(slotsC W)[i]? with
   |none=>rw[hp]at hi';cases hi'
   |some p =>
     obtain⟨b,off⟩:=p;rw[hp]at hi hi';injection hi with hi;injection hi' with hi';subst hi;subst hi'
     have hv:VRel S κ D' w (.loc 5 31 0 off) (.pointer (some ⟨g,off,none⟩)):=by
      have:=VRel.loc (S:=S) (w:=w) 5 31 0 off g c hd hk
      rwa[zi5,zaI]at this
     cases b with
     |false =>
       match j,hj with
       |0,hj=>injection hj with hj;subst hj;exact⟨_,rfl,λu hu=>by cases hu;exact hv⟩
       |1,hj=>injection hj with hj;subst hj;exact⟨_,rfl,λu hu=>.c hu⟩
       |j+2,hj=>simp at hj
     |true =>
       match j,hj with
       |0,hj=>injection hj with hj;subst hj;exact⟨_,rfl,λu hu=>.c hu⟩
       |1,hj=>injection hj with hj;subst hj;exact⟨_,rfl,λu hu=>by cases hu;exact hv⟩
       |j+2,hj=>simp at hj
def zGp{S:aD}{w:World}(h:varsOk S w):CRel S w (.fp (zd1.map AV.v)) (.pointer (some ⟨0,0,none⟩)):=by
 refine .fp _ _ (λj=>zd1.getD j undef) h.1.1 (λj c hj=>?_) (λj c hj=>?_)
 all_goals
  rw[zbv]at hj
  cases hx:zd1[j]? with
  |none=>rw[hx]at hj;cases hj
  |some x =>
    rw[hx]at hj;injection hj with hj;subst hj;have hg:zd1.getD j undef=x:=by rw[List.getD_eq_getElem?_getD,hx];rfl
    first
     |(rw[hg];exact .v x)
     |(rw[hg,add_at,zaI]
       refine⟨?_,?_⟩
       .have:=World.var?_cell g0 h.1.2 j;rw[this];simp[hx]
       . have hm:x∈zd1:=zau hx;unfold zd1 at hm;obtain⟨p,_,hp⟩:=zbM.1 hm;simp only[zH,zcF]at hp
         rcases hp with rfl|rfl<;>rfl)
def forms_at{W:Nat}(hW:W<12):((zd1.map AV.v).drop (W*2)).take 2=[.v (.string (tx (kw W))),I (((slotsC W).length+1:Nat):Int)]:=by rcases lt12 hW with rfl|rfl|rfl|rfl|rfl|rfl|rfl|rfl|rfl|rfl|rfl|rfl<;>rfl
def glob_op{N:Nat}{ops:aT}{Q:aX}{i d x W:Nat}{st:St}{X:Sat2}{K':aj}(ho:opIs ops i d (.indexAddr 141 (.global 0) (.tmp x)))(hd:d<N)(h:NowP w0 S0 κ0 K N X st a w)
  (hx:get st.t x=I (W:Nat)) (hW:W<12) (hK:∀a',NowP w0 S0 κ0 K N X { st with t:=(d,.fp [.v (.string (tx (kw W))),I (((slotsC W).length+1:Nat):Int)])::st.t } a' w->K' a' w):wpOp zP ops Q i K' a w:=by
 obtain⟨S,κ,h1,h2⟩:=h;obtain⟨o,o1,o2,o3,o4⟩:=ho.get;have hvx:=h1.slots x;rw[hx]at hvx;have hvs:VRel S κ (λb=>(Ab.look st.m b).isSome=true) w (.fp (zd1.map AV.v)) (.pointer (some ⟨0,0,none⟩)):=.c (zGp (Good.okw h1))
 have hi:aIndex zP 141 (.fp (zd1.map AV.v)) (I (W:Nat))=some { val:=.fp [.v (.string (tx (kw W))),I (((slotsC W).length+1:Nat):Int)] }:=by
  have hu:zP.underlying 141=some (.array 12 140):=by kernel_rfl
  have hz:szB zP 140=some 2:=by kernel_rfl
  unfold aIndex;simp only[hu,hz];rw[iPQ];simp only[zae];rw[forms_at hW]
 obtain⟨y,e1,e2,_⟩:=zu8 (w:=w) hi hvs hvx;refine zuU (w':=w) (y:=y) o1 o4 ?_ ?_
 .have:(Instr.indexAt 141 (a.eval (.global 0)) (a.eval (.tmp x))).run zP w=.ok y w:=e1;simp[execOp,o3,this]
 .rw[o2];exact hK _ ⟨S,κ,h1.put hd _ _ e2,h2⟩
def fm6_0(o c:GOp)(W:Nat)(hW:W<12):tSeg za3 zT 6 0 1 ⟨[(1,AV.fp (nGOp o)),(4,I W),(5,bA 5 31),(6,AV.sl 2 (fsA W o)),(7,AV.row 22 2 0 (slotsC W).length)],[(5,pT c),(22,⟨2,149,tsA W,true⟩)]⟩ =
  some ⟨[(23,I W),(1,AV.fp (nGOp o)),(4,I W),(5,bA 5 31),(6,AV.sl 2 (fsA W o)),(7,AV.row 22 2 0 (slotsC W).length)],[(5,pT c),(22,⟨2,149,tsA W,true⟩)]⟩:=by
 rcases lt12 hW with rfl|rfl|rfl|rfl|rfl|rfl|rfl|rfl|rfl|rfl|rfl|rfl<;>kernel_rfl
def NowP.ren{N:Nat}{st st':St}(h:NowP w0 S0 κ0 K N X0 st a w)(b s:Nat)(hb:b<1000)(hs:s<1000)(hbs:b≠s)(hL:Ab.look st.m s=none)(e:renS b s st=st'):NowP w0 S0 κ0 K N X0 st' a w:=by obtain⟨S,κ,h1,_⟩:=h;subst e;exact⟨S,_,h1.ren hb hs hbs hL,trivial⟩
def fm5'(w:Int)(g1 g5:Nat):tSeg za3 zT 5 0 6 ⟨[(1,AV.v (.pointer (some ⟨g1,0,none⟩))),(4,I w),(5,AV.v (.pointer (some ⟨g5,0,none⟩)))],[]⟩=(callD zcJ (cw 41 [I w,AV.v (.pointer (some ⟨g1,0,none⟩))] []) λ(r0:(List zck)) =>
 callD zcJ (cw 41 [I w,AV.v (.pointer (some ⟨g5,0,none⟩))] []) λ(r1:(List zck)) =>
 some ⟨[(7,.row 22 2 0 (List.length (mF r1))),(6,.row 20 2 0 (List.length (mF r0))),(22,.row 22 2 0 (List.length (mF r1))),(21,I w),(20,.row 20 2 0 (List.length (mF r0))),(19,I w),(1,.v (.pointer (some ⟨g1,0,none⟩))),(4,I w),(5,.v (.pointer (some ⟨g5,0,none⟩)))],[(22,gU (mF r1)),(20,gU (mF r0))]⟩):=by kernel_rfl
def fm_mid(o c:GOp)(W:Nat)(hW:W<12)
  (h:NowP w0 S0 κ0 K za3.fn.ntmps X0 ⟨[(1,bA 1 31),(4,I W),(5,bA 5 31)],[(1,pT o),(5,pT c)]⟩ a w) {Q:aX} {rest:Code}
  (hQ:∀a' w',NowP w0 S0 κ0 K za3.fn.ntmps X0 ⟨[(1,AV.fp (nGOp o)),(5,bA 5 31),(6,AV.sl 2 (fsA W o)),(7,AV.row 22 2 0 (slotsC W).length),(8,bB 8 1 (List.map nStr [tx (kw W)]))],[(5,pT c),(8,⟨1,9,List.map nStr [tx (kw W)],false⟩),(22,⟨2,149,tsA W,true⟩)]⟩ a' w'->rest.wp za3.P Q a' w'):(Code.seq (.region 5 (fmO 5) false) (.seq (.region 6 (fmO 6) false) rest)).wp za3.P Q a w:=by
 have hv1:∃g1,a.tmps.getD 1 undef=.pointer (some ⟨g1,0,none⟩):=by obtain⟨S,κ,hg,_⟩:=h;obtain⟨g,c',_,_,e⟩:=(hg.slots 1).loc_inv;exact⟨g,by rw[e]⟩
 obtain⟨g1,hg1⟩:=hv1;have h1:=h.freeze Stable.none fm_n [1] rfl (st':=⟨[(1,AV.fp (nGOp o)),(4,I W),(5,bA 5 31)],[(5,pT c)]⟩) (by kernel_rfl);obtain⟨g5,c5,κd,hκd,hg5,h2⟩:=h1.leave (B:=5) (k:=5) rfl (by decide) (by kernel_rfl) rfl;have hst5:=Away.stable (w0:=w0) (κ0:=κ0) (K:=K) (B:=5) (e:=pT c) hκd;have hfp:=Stable.lasts (.fp (nGOp o)) (.pointer (some ⟨g1,0,none⟩))
 have h3:NowP w0 S0 κ0 K za3.fn.ntmps (λS κ L w=>Away w0 κ0 K 5 (pT c) g5 κd S κ L w/\CRel S w (.fp (nGOp o)) (.pointer (some ⟨g1,0,none⟩)))
   ⟨[(1,AV.v (.pointer (some ⟨g1,0,none⟩))),(4,I W),(5,AV.v (.pointer (some ⟨g5,0,none⟩)))],[]⟩ a w:=by
  obtain⟨S,κ,hg,hx⟩:=h2;have hs1:=hg.slots 1
  have hc:CRel S w (.fp (nGOp o)) (.pointer (some ⟨g1,0,none⟩)):=by rw[<-hg1];exact VRel.fp_inv (show VRel S κ _ w (.fp (nGOp o)) _ from hs1)
  have q1:=GoodS.set hg 5 (.v (.pointer (some ⟨g5,0,none⟩))) (by rw[hg5];exact .c (.v _));have q2:=GoodS.set q1 1 (.v (.pointer (some ⟨g1,0,none⟩))) (by rw[hg1];exact .c (.v _));exact NowP.trim (hst5.both hfp) ⟨S,κ,q2,hx,hc⟩ [1,4,5] [] (by kernel_rfl)
 have z5:(fmO 5).size=6:=by kernel_rfl
 have t5:=fm5' (W:Nat) g1 g5;rw[zAA g1 hW,zeP,zAA g5 hW,zeP]at t5;refine wp_seq (wp_region ?_);rw[z5,show List.range 6=List.range' 0 6++[]from rfl];refine segP (hst5.both hfp) fm_hb fm_n fm_r5 t5 (by rw[z5];decide) h3 (λa2 w2 h4=>?_);show(Code.seq (.region 6 (fmO 6) false) rest).wp za3.P Q a2 w2
 have h5:=(h4.trim (hst5.both hfp) [1,4,5,6,7] [] (by kernel_rfl) (st':=⟨[(1,AV.v (.pointer (some ⟨g1,0,none⟩))),(4,I W),(5,AV.v (.pointer (some ⟨g5,0,none⟩))),(6,.row 20 2 0 (List.length (mF (slotsS W g1)))),(7,.row 22 2 0 (List.length (mF (slotsS W g5))))],[(20,gU (mF (slotsS W g1))),(22,gU (mF (slotsS W g5)))]⟩)).freeze (hst5.both hfp) fm_n [20] rfl (st':=⟨[(1,AV.v (.pointer (some ⟨g1,0,none⟩))),(4,I W),(5,AV.v (.pointer (some ⟨g5,0,none⟩))),(6,.sl 2 (mF (slotsS W g1))),(7,.row 22 2 0 (List.length (mF (slotsS W g5))))],[(22,gU (mF (slotsS W g5)))]⟩) (by
    generalize mF (slotsS W g1)=xs;generalize mF (slotsS W g5)=ys
    simp[zd8,zqP,znl,zeQ,snap,Ab.look])
 obtain⟨S,κ,hg,hk5,κ1,hc⟩:=h5.back hκd (by decide) rfl;have e1:=(hg.slots 1).v_inv;have e5:=(hg.slots 5).v_inv;have q1:=GoodS.set hg 1 (.fp (nGOp o)) (by rw[show a2.tmps.getD 1 undef=_ from e1];exact .c hc)
 have q2:=GoodS.set q1 5 (.loc 5 31 0 0) (by
  rw[show a2.tmps.getD 5 undef=_ from e5];have:=VRel.loc (S:=S) (κ:=κ) (D:=λb=>(Ab.look ((5,(pT c:Ent))::[(22,(gU (mF (slotsS W g5)):Ent))]) b).isSome=true) (w:=w2) 5 31 0 0 g5 c5 (by rfl) hk5
  exact this)
 have q3:=GoodS.set q2 6 (.sl 2 (fsA W o)) (.c (view_from hc (VRel.sl_inv (show VRel S κ _ w2 (.sl 2 (mF (slotsS W g1))) _ from hg.slots 6))));have q4:=GoodS.reent q3 (B:=22) (ent':=⟨2,149,tsA W,true⟩) rfl (view_to hW hk5 (by rfl) (hg.ents 22 _ rfl))
 have h6:=NowP.trim Stable.none (X:=X0) ⟨S,κ,q4,trivial⟩ [1,4,5,6,7] [] (st':=⟨[(1,AV.fp (nGOp o)),(4,I W),(5,bA 5 31),(6,AV.sl 2 (fsA W o)),(7,AV.row 22 2 0 (slotsC W).length)],[(5,pT c),(22,⟨2,149,tsA W,true⟩)]⟩) (by
  rw[show(slotsC W).length=(mF (slotsS W g5)).length by unfold slotsS;simp]
  rfl)
 have z6:(fmO 6).size=6:=by kernel_rfl
 refine wp_seq (wp_region ?_);rw[z6,show List.range 6=List.range' 0 1++(1::(List.range' 2 4++[]))from rfl];refine segP Stable.none fm_hb fm_n fm_r6 (fm6_0 o c W hW) (by rw[z6];decide) h6 (λa3 w3 h7=>?_);rw[wpOps_cons];refine glob_op (d:=24) (x:=23) (by unfold opIs;kernel_rfl) (by decide) h7 rfl hW (λa4 h8=>?_);have h9:=h8.trim Stable.none [1,5,24,6,7] [] (st':=⟨[(1,AV.fp (nGOp o)),(5,bA 5 31),(24,AV.fp [AV.v (.string (tx (kw W))),I (((slotsC W).length+1:Nat):Int)]),(6,AV.sl 2 (fsA W o)),(7,AV.row 22 2 0 (slotsC W).length)],[(5,pT c),(22,⟨2,149,tsA W,true⟩)]⟩) (by kernel_rfl);refine segP Stable.none fm_hb fm_n fm_r6 (fm6 o c (fsA W o) W hW (tx (kw W)) _ W) (by rw[z6];decide) h9 (λa5 w5 hA=>?_);have hB:=hA.trim Stable.none [1,5,6,7,8] [] rfl;have hC:=NowP.ren hB 27 8 (by decide) (by decide) (by decide) (by kernel_rfl) rfl
 exact hQ _ _ (hC.trim Stable.none [1,5,6,7,8] [] (by
  clear hQ h hg1 h1 hg5 h2 h3 t5 h4 h5 hg hk5 hc e1 e5 q1 q2 q3 q4 h6 h7 h8 h9 hA hB hC
  rcases lt12 hW with rfl|rfl|rfl|rfl|rfl|rfl|rfl|rfl|rfl|rfl|rfl|rfl<;>kernel_rfl))
def formOfS_le(o:GOp):zfF o<=12:=by
 unfold zfF
 cases h:(List.range 12).find? (isForm o)with
 |none=>simp
 |some w=>have:=zgq.1 (zcG h);simp;omega
def fm3':tReg za3 zT 3 ⟨[],[]⟩=some stBad:=by kernel_rfl
def fm19:tReg za3 zT 19 ⟨[],[]⟩=some stBad:=by kernel_rfl
def word_len{o:GOp}(ho:OpW o)(p:Bool×Nat)(hk:okW o p):(wordC o p).length<=21000:=by
 unfold wordC;unfold okW at hk;split
 . rename_i h;rw[if_pos h]at hk;unfold wordL;split
   .simp
   . have:=zyE (k:=20) 44 ((getL p.2 o).map Lib.itoa) (λw hw=>by
      obtain⟨n,hn,rfl⟩:=zbf.1 hw
      exact zqx ((ho.list p.2).2 n hn))
     rw[zab]at this;omega
 .have:=zqx (ho.num p.2);omega
def kw_len(W:Nat):(kw W).length<=9:=by
 rcases zcs W 12 with h|h
 .rcases lt12 h with rfl|rfl|rfl|rfl|rfl|rfl|rfl|rfl|rfl|rfl|rfl|rfl<;>decide
 .unfold kw;rw[List.getElem?_eq_none (by simpa[formsT]using h)];simp
abbrev stOut(r:List UInt8×Int):St:=⟨[(2,.v (.string (tx r.1))),(3,I r.2)],[]⟩
def fm_body{o:GOp}(ho:OpW o)(h:NowP w0 S0 κ0 K za3.fn.ntmps X0 ⟨[(0,sY o)],[]⟩ a w):fmC.wp za3.P (PostC w0 S0 κ0 K za3.fn.ntmps .ret (stOut (fmtR o))) a w:=by
 have bad:fmtS o=none->∀a' w',NowP w0 S0 κ0 K za3.fn.ntmps X0 stBad a' w'->PostC w0 S0 κ0 K za3.fn.ntmps .ret (stOut (fmtR o)) .ret a' w':=λe a' w' hn=>by refine⟨rfl,?_⟩;unfold fmtR;rw[e];obtain⟨S,κ,hg,_⟩:=hn;exact⟨S,κ,hg⟩
 rw[fm_shape];refine wp_seq (fmStep fm_r0 (fm0 o) h (λa1 w1 h1=>?_));have t1:=fm1 o;rw[c_formOf,zcj]at t1;refine wp_seq (fmStep fm_r1 t1 h1 (λa2 w2 h2=>?_));refine wp_seq (wp_seq (fmStep fm_r2 (fm2 o (zfF o:Nat)) h2 (λa3 w3 h3=>?_)));refine wp_cond (h3.bool (b:=(((zfF o:Nat):Int)==12)) rfl) ?_;have hle:=formOfS_le o;by_cases hF:zfF o=12
 . rw[hF,show(((12:Nat):Int)==12)=true from rfl,if_pos rfl];have e:fmtS o=none:=by unfold fmtS;rw[if_neg (λq=>by omega)]
   have h4:=h3.trim Stable.none [] [1] (st':=⟨[],[]⟩) (by kernel_rfl);exact wp_seq (fmStep fm_r3 fm3' h4 (λa5 w5 h5=>wp_ret (bad e a5 w5 h5)))
 rw[show(((zfF o:Nat):Int)==12)=false from by rw[beq_eq_false_iff_ne];omega,iNs];refine wp_skip ?_;have hW:zfF o<12:=by omega
 generalize hWe:zfF o=W at hW h3;have h4:=h3.trim Stable.none [1,4] [] (st':=⟨[(1,bA 1 31),(4,I W)],[(1,pT o)]⟩) (by kernel_rfl);have t4:=fm4 o W;rw[c_blank hW,znx]at t4;refine wp_seq (fmStep fm_r4 t4 h4 (λa5 w5 h5=>?_));refine fm_mid o (blankS W) W hW h5 (λa6 w6 h6=>?_);refine wp_seq (fm_loop o ho W hW (by simpa only[cpA,wsA,zh7,List.foldl_nil,zeN]using h6) (λhok a7 w7 h7=>?_) (λhbad a7 w7 h7=>bad (by unfold fmtS;rw[hWe,if_neg (λq=>hbad q.2.1)]) a7 w7 h7));have t18:=fm18 o (copyS W o) [] W hW (wsA W o (slotsC W).length);rw[c_same o _ (by have:=(ho.list 28).1;exact zeu this (by decide)) (by have:=(ho.list 9).1;exact zeu this (by decide)) (by have:=(ho.list 10).1;exact zeu this (by decide)) (by have:=(ho.list 19).1;exact zeu this (by decide)),zaG]at t18;refine wp_seq (wp_seq (fmStep fm_r18 t18 h7 (λa8 w8 h8=>?_)));refine wp_cond (h8.bool (b:=!decide (o=copyS W o)) rfl) ?_;by_cases hs:o=copyS W o
 . rw[decide_eq_true hs,iNs];refine wp_skip ?_;have h9:=h8.trim Stable.none [8] [] (st':=⟨[(8,bB 8 1 (List.map nStr (wsA W o (slotsC W).length)))],[(8,⟨1,9,List.map nStr (wsA W o (slotsC W).length),false⟩)]⟩) (by kernel_rfl)
   have hws:wsA W o (slotsC W).length=(kw W::(slotsC W).map (wordC o)).map tx:=by unfold wsA;rw[zbn];simp only[zbx];simp only[zfX];rfl
   have hlen:=zws W
   have hj:=zyE (k:=21000) 32 (kw W::(slotsC W).map (wordC o)) (λw hw=>by
    rcases zat.1 hw with rfl|hw
    .have:=kw_len W;omega
    . obtain⟨p,hp,rfl⟩:=zbf.1 hw
      exact word_len ho p (hok p hp))
   have t20:=fm20 (wsA W o (slotsC W).length);rw[cPQ,zbn,hws,show(({ data:={ toList:=[32] } }:ByteArray))=tx [32]from rfl,c_Join (by simp;omega) (by simp only[zaJ,zab]at hj;omega),zcC]at t20;rw[hws]at h9;refine wp_seq (fmStep fm_r20 t20 h9 (λaA wA hA=>wp_ret ⟨rfl,?_⟩))
   have e:fmtS o=some (lineS W o):=by unfold fmtS;rw[hWe,if_pos ⟨hW,hok,hs.symm⟩]
   unfold fmtR;rw[e];obtain⟨S,κ,hg,_⟩:=hA;exact⟨S,κ,hg⟩
 .rw[decide_eq_false hs,if_pos (by simp)];have h9:=h8.trim Stable.none [] [8] (st':=⟨[],[]⟩) (by kernel_rfl);exact wp_seq (fmStep fm_r19 fm19 h9 (λaA wA hA=>wp_ret (bad (by unfold fmtS;rw[hWe,if_neg (λq=>hs q.2.2.symm)]) aA wA hA)))
def fmt_ok:CallOK zP (single 13 zOrc):=by
 refine ora (o:=oFmt) (λargs=>by unfold zOrc;simp(decide:=true) only [if_false,if_true]) fm_enters (λargs r ms' hr=>?_);unfold oFmt at hr;split at hr
 case h_2=>cases hr
 rename_i cs;split at hr
 case h_2=>cases hr
 rename_i o hd;split at hr
 case isFalse=>cases hr
 rename_i ho;injection hr with hr;injection hr with h1 h2;subst h1 h2;have he:=dGOp.ok cs o hd;subst he;refine⟨rfl,λw S κ vals hvl hS hk hv=>?_⟩;have hf:za3.P.funcs[13]?=some za3.fn:=by kernel_rfl
 refine zwg (args:=[sY o]) (ms:=[]) (frz:=false) (ex:=.ret) (st:=stOut (fmtR o)) hf fm_hb (show 1<=za3.fn.ntmps by decide) hvl hS hk hv (λb ent hb=>by simp[Ab.look]at hb) (λb b' g c c' hd=>by simp[Dm,Ab.look]at hd) (λid=>by simp) (λa hg=>?_) ?_ ?_ ?_
 .obtain⟨S,κ,hg⟩:=hg;exact fm_body ho ⟨S,κ,hg,trivial⟩
 .kernel_rfl
 .kernel_rfl
 .kernel_rfl
def c_Format{o:GOp}(ho:OpW o):cw 13 [.agg (nGOp o)] []=some (zqy (tx (fmtR o).1,(fmtR o).2)):=by
 refine zqS fmt_ok ?_;have hd:dGOp.dec (nGOp o)=some o:=dGOp.de o
 have e:oFmt [.agg (nGOp o)]=(match dGOp.dec (nGOp o)with
  |some o=>@ite _ (OpW o) (Classical.propDecidable _) (some (.tup [.v (.string (tx (fmtR o).1)),I (fmtR o).2],[])) none
  |none=>none):=rfl
 show oFmt [.agg (nGOp o)]=_;rw[e,hd];simp only;rw[if_pos ho];rfl
end
end Go.Proofs.YtcpnffbcljkbkaaGreatDoor
namespace Go.Proofs.YtcpnffbcljkbkaaGreatDoor
open Go.Ab Go.Str
set_option maxRecDepth 100000
def pzC:Code:=(zbi.fn.body).getD .skip
def pzO(j:Nat):Array Oper:=opsAt j pzC
def pzD(j:Nat):Bool:=zBy j pzC
def pz_hb:zbi.fn.body=some pzC:=by kernel_rfl
theorem pz_shape:pzC=(.seq (.region 0 (pzO 0) (pzD 0)) (.seq (.region 1 (pzO 1) (pzD 1)) (.seq (.seq (.region 2 (pzO 2) false) (.block 0 (.loop (.seq (.region 3 (pzO 3) (pzD 3)) (.seq (.cond (.tmp 14) .skip (.exit 0)) (.seq (.block 1 (.seq (.region 4 (pzO 4) (pzD 4)) (.seq (.seq (.region 5 (pzO 5) (pzD 5)) (.cond (.tmp 22) (.exit 1) .skip)) (.seq (.seq (.region 6 (pzO 6) (pzD 6)) (.cond (.tmp 27) (.seq (.region 7 (pzO 7) (pzD 7)) .ret) .skip)) (.seq (.region 8 (pzO 8) (pzD 8)) (.seq (.seq (.region 9 (pzO 9) false) (.block 2 (.loop (.seq (.region 10 (pzO 10) (pzD 10)) (.seq (.cond (.tmp 35) .skip (.exit 2)) (.seq (.block 3 (.seq (.region 11 (pzO 11) (pzD 11)) (.seq (.region 12 (pzO 12) (pzD 12)) (.cond (.tmp 46) (.seq (.region 13 (pzO 13) (pzD 13)) .ret) .skip)))) (.region 14 (pzO 14) (pzD 14)))))))) (.seq (.region 15 (pzO 15) (pzD 15)) .ret))))))) (.region 16 (pzO 16) (pzD 16)))))))) (.seq (.region 17 (pzO 17) (pzD 17)) .ret)))):=by kernel_rfl
def pz_r0:regOf 0 pzC=some (.region 0 (pzO 0) (pzD 0)):=by kernel_rfl
def pz_r1:regOf 1 pzC=some (.region 1 (pzO 1) (pzD 1)):=by kernel_rfl
def pz_r2:regOf 2 pzC=some (.region 2 (pzO 2) false):=by kernel_rfl
def pz_r3:regOf 3 pzC=some (.region 3 (pzO 3) (pzD 3)):=by kernel_rfl
def pz_r4:regOf 4 pzC=some (.region 4 (pzO 4) (pzD 4)):=by kernel_rfl
def pz_r5:regOf 5 pzC=some (.region 5 (pzO 5) (pzD 5)):=by kernel_rfl
def pz_r6:regOf 6 pzC=some (.region 6 (pzO 6) (pzD 6)):=by kernel_rfl
def pz_r7:regOf 7 pzC=some (.region 7 (pzO 7) (pzD 7)):=by kernel_rfl
def pz_r8:regOf 8 pzC=some (.region 8 (pzO 8) (pzD 8)):=by kernel_rfl
def pz_r9:regOf 9 pzC=some (.region 9 (pzO 9) false):=by kernel_rfl
def pz_r10:regOf 10 pzC=some (.region 10 (pzO 10) (pzD 10)):=by kernel_rfl
def pz_r11:regOf 11 pzC=some (.region 11 (pzO 11) (pzD 11)):=by kernel_rfl
def pz_r12:regOf 12 pzC=some (.region 12 (pzO 12) (pzD 12)):=by kernel_rfl
def pz_r13:regOf 13 pzC=some (.region 13 (pzO 13) (pzD 13)):=by kernel_rfl
def pz_r14:regOf 14 pzC=some (.region 14 (pzO 14) (pzD 14)):=by kernel_rfl
def pz_r15:regOf 15 pzC=some (.region 15 (pzO 15) (pzD 15)):=by kernel_rfl
def pz_r16:regOf 16 pzC=some (.region 16 (pzO 16) (pzD 16)):=by kernel_rfl
def pz_r17:regOf 17 pzC=some (.region 17 (pzO 17) (pzD 17)):=by kernel_rfl
def pz_n:zbi.fn.ntmps<=1000:=by decide
def pz_enters:enters zbi.P 12=true:=by kernel_rfl
def view_put{S:aD}{κ:Kap}{D D':aD}{w:World}{kb:ag}{W g c:Nat}{e:TypeId}(hW:W<12)(hk:κ 7=some (g,c))(hd:D' 7)(h:EntAt S κ D w kb ⟨2,e,mF (slotsS W g),false⟩):EntAt S κ D' w kb ⟨2,e,tsP W,true⟩:=by
 refine h.boxed (by decide) (λq=>slots_ne hW (by unfold slotsS at q;simpa using q)) (by unfold tsP slotsS;simp) (λcs hcs=>?_) (λi j cs cs' a' hi hi' hj=>?_)
 .unfold tsP at hcs;obtain⟨p,_,rfl⟩:=zbf.1 hcs;split<;>rfl
 . unfold tsP at hi';unfold slotsS at hi;rw[zbv]at hi';simp only[zfX]at hi;rw[zbv]at hi
   cases hp:(slotsC W)[i]? with
   |none=>rw[hp]at hi';cases hi'
   |some p =>
     obtain⟨b,off⟩:=p;rw[hp]at hi hi';injection hi with hi;injection hi' with hi';subst hi;subst hi'
     have hv:VRel S κ D' w (.loc 7 31 0 off) (.pointer (some ⟨g,off,none⟩)):=by
      have:=VRel.loc (S:=S) (w:=w) 7 31 0 off g c hd hk
      rwa[zi5,zaI]at this
     cases b with
     |false =>
       match j,hj with
       |0,hj=>injection hj with hj;subst hj;exact⟨_,rfl,λu hu=>by cases hu;exact hv⟩
       |1,hj=>injection hj with hj;subst hj;exact⟨_,rfl,λu hu=>.c hu⟩
       |j+2,hj=>simp at hj
     |true =>
       match j,hj with
       |0,hj=>injection hj with hj;subst hj;exact⟨_,rfl,λu hu=>.c hu⟩
       |1,hj=>injection hj with hj;subst hj;exact⟨_,rfl,λu hu=>by cases hu;exact hv⟩
       |j+2,hj=>simp at hj
section
variable{w0:World}{S0:aD}{κ0:Kap}{K:aD}{a:Act}{w:World}
def pzStep{j:Nat}{st st':St}(hr:regOf j pzC=some (.region j (pzO j) (pzD j)))(ht:tReg zbi zT j st=some st')
  (h:NowP w0 S0 κ0 K zbi.fn.ntmps X0 st a w) {Q:aX} (hQ:∀a' w',NowP w0 S0 κ0 K zbi.fn.ntmps X0 st' a' w'->Q .normal a' w'):(Code.region j (pzO j) (pzD j)).wp zbi.P Q a w:=stepP Stable.none pz_hb pz_n hr ht h hQ
abbrev stR(r:Option GOp):St:=⟨[(2,bA 2 31),(3,I (match r with|some _=>0|none=>7))],[(2,⟨31,75,[match r with|some o=>nGOp o|none=>nilOp],true⟩)]⟩
abbrev stL(ws:List ByteArray)(c:GOp)(W:Nat)(i:Int):St:=⟨[(2,bA 2 31),(4,AV.sl 1 (List.map nStr ws)),(7,bA 7 31),(32,AV.row 32 2 0 (slotsC W).length),(33,I (slotsC W).length),(34,I i)],[(2,⟨31,75,[nilOp],true⟩),(7,pT c),(32,⟨2,149,tsP W,true⟩)]⟩
abbrev pzBody:Code:=.seq (.region 11 (pzO 11) (pzD 11)) (.seq (.region 12 (pzO 12) (pzD 12)) (.cond (.tmp 46) (.seq (.region 13 (pzO 13) (pzD 13)) .ret) .skip))
def pz_round(ws:List ByteArray)(W:Nat)(hW:W<12)(i:Nat)(p:Bool×Nat)(hp:(slotsC W)[i]?=some p)(l:List UInt8)(hl:l.length<4294967281)(hw:ws[i+1]?=some (tx l))(c:GOp)
  (h:NowP w0 S0 κ0 K zbi.fn.ntmps X0 (stL ws c W i) a w) {Q:aX}
  (hok:∀c',read1 c p l=some c'->∀a' w',NowP w0 S0 κ0 K zbi.fn.ntmps X0 (stL ws c' W i) a' w'->Q .normal a' w')
  (hbad:read1 c p l=none->∀a' w',NowP w0 S0 κ0 K zbi.fn.ntmps X0 (stR none) a' w'->Q .ret a' w'):pzBody.wp zbi.P Q a w:=by
 have hil:i<(slotsC W).length:=(zal.1 hp).1;have hs7:=zws W;have t11:=pz11 W i p hp c ws (slotsC W).length;rw[cPQ,cPQ]at t11;refine wp_seq (pzStep pz_r11 t11 h (λa1 w1 h1=>?_));have hi1:(w64 ((i:Int)+1)).toNat=i+1:=by rw[w6Q];omega
 have hi0:(0:Int)<=w64 ((i:Int)+1):=by rw[w6Q];omega
 obtain⟨pl,off⟩:=p
 cases pl with
 |false =>
   have t12:=pz12n c ws W hW (slotsC W).length i off;rw[zam hi0,zwi,hi1,hw,zad,read_n (slots_n hp),zpf]at t12;refine wp_seq (pzStep pz_r12 t12 h1 (λa2 w2 h2=>?_));refine wp_cond (h2.bool (b:=!(numR l).2) rfl) ?_;unfold numR at h2 ⊢
   cases hn:numS l with
   |some n=>rw[hn]at h2;simp only;rw[zaS,iNs];exact wp_skip (hok (putN n off c) (by simp[read1,hn]) _ _ (h2.trim Stable.none [2,4,7,32,33,34] [] (by kernel_rfl)))
   |none=>simp only;rw[zbe,if_pos rfl];rw[hn]at h2;have h3:=h2.trim Stable.none [2] [7,32] (st':=⟨[(2,bA 2 31)],[(2,⟨31,75,[nilOp],true⟩)]⟩) (by kernel_rfl);exact wp_seq (pzStep pz_r13 pz13 h3 (λa4 w4 h4=>wp_ret (hbad (by simp[read1,hn]) a4 w4 h4)))
 |true =>
   have t12:=pz12l c ws W hW (slotsC W).length i off;rw[zam hi0,zwi,hi1,hw,zad,read_l (slots_l hp) c l hl,zpf]at t12;refine wp_seq (pzStep pz_r12 t12 h1 (λa2 w2 h2=>?_));refine wp_cond (h2.bool (b:=!(listR l).2) rfl) ?_;unfold listR at h2 ⊢
   cases hn:readL l with
   |some n=>rw[hn]at h2;simp only;rw[zaS,iNs];exact wp_skip (hok (putL n off c) (by simp[read1,hn]) _ _ (h2.trim Stable.none [2,4,7,32,33,34] [] (by kernel_rfl)))
   |none=>simp only;rw[zbe,if_pos rfl];rw[hn]at h2;have h3:=h2.trim Stable.none [2] [7,32] (st':=⟨[(2,bA 2 31)],[(2,⟨31,75,[nilOp],true⟩)]⟩) (by kernel_rfl);exact wp_seq (pzStep pz_r13 pz13 h3 (λa4 w4 h4=>wp_ret (hbad (by simp[read1,hn]) a4 w4 h4)))
abbrev pzLoop:Code:=.loop (.seq (.region 10 (pzO 10) (pzD 10)) (.seq (.cond (.tmp 35) .skip (.exit 2)) (.seq (.block 3 pzBody) (.region 14 (pzO 14) (pzD 14)))))
def zKq{p:Bool×Nat}{ps:List (Bool×Nat)}{w:List UInt8}{ws:List (List UInt8)}{c:GOp}:zkJ (p::ps) (w::ws) c=(match read1 c p w with|some c'=>zkJ ps ws c'|none=>none):=rfl
def pz_loop(hd:List UInt8)(tl:List (List UInt8))(W:Nat)(hW:W<12)(hlen:tl.length=(slotsC W).length)(hsm:∀l∈tl,l.length<4294967281)
  (h:NowP w0 S0 κ0 K zbi.fn.ntmps X0 (stL ((hd::tl).map tx) (blankS W) W 0) a w) {Q:aX}
  (hok:∀o,zkJ (slotsC W) tl (blankS W)=some o->∀a' w',NowP w0 S0 κ0 K zbi.fn.ntmps X0 ⟨[(2,bA 2 31),(7,bA 7 31)],[(2,⟨31,75,[nilOp],true⟩),(7,pT o)]⟩ a' w'->Q .normal a' w')
  (hbad:zkJ (slotsC W) tl (blankS W)=none->∀a' w',NowP w0 S0 κ0 K zbi.fn.ntmps X0 (stR none) a' w'->Q .ret a' w'):(Code.block 2 pzLoop).wp zbi.P Q a w:=by
 have hs7:=zws W;refine wp_block (wp_loop (λa w=>∃k:Nat,k<=(slotsC W).length/\∃c,zkJ ((slotsC W).drop k) (tl.drop k) c=zkJ (slotsC W) tl (blankS W)/\NowP w0 S0 κ0 K zbi.fn.ntmps X0 (stL ((hd::tl).map tx) c W k) a w) (λa _=>(slotsC W).length-cnt a 34) ⟨0,zcT _,blankS W,rfl,h⟩ ?_)
 rintro a w ⟨k,hk,c,hA,hn⟩
 have hc0:cnt a 34=k:=by rw[hn.cnt (n:=(k:Int)) rfl];simp
 refine wp_seq (pzStep pz_r10 (pz10 c ((hd::tl).map tx) W hW (slotsC W).length k) hn (λa2 w2 h2=>?_));refine wp_seq (wp_cond (h2.bool (b:=decide ((k:Int)<(slotsC W).length)) rfl) ?_);by_cases hlt:k<(slotsC W).length
 . rw[decide_eq_true (by omega),if_pos rfl];refine wp_skip ?_;have h3:=h2.trim Stable.none [2,4,7,32,33,34] [] (st':=stL ((hd::tl).map tx) c W k) (by kernel_rfl);have hp:(slotsC W)[k]?=some (slotsC W)[k]:=zaa hlt;have hkt:k<tl.length:=by omega
   have hw:((hd::tl).map tx)[k+1]?=some (tx tl[k]):=by simp only[zbx];rw[zdD,zbv,zaa hkt];rfl
   have hstep:zkJ ((slotsC W).drop k) (tl.drop k) c=(match read1 c (slotsC W)[k] tl[k]with|some c'=>zkJ ((slotsC W).drop (k+1)) (tl.drop (k+1)) c'|none=>none):=by rw[zbE hlt,zbE hkt];exact zKq
   refine wp_seq (wp_block (pz_round _ W hW k _ hp tl[k] (hsm _ (zaq hkt)) hw c h3 (λc' hc' a4 w4 h4=>?_) (λhb a4 w4 h4=>hbad (by rw[<-hA,hstep,hb]) a4 w4 h4)));refine pzStep pz_r14 (pz14 c' _ W hW (slotsC W).length k) h4 (λa5 w5 h5=>?_);rw[w6Q]at h5;refine⟨⟨k+1,hlt,c',by rw[<-hA,hstep,hc'],by exact_mod_cast h5⟩,?_⟩;have:cnt a5 34=k+1:=by rw[h5.cnt (n:=(k:Int)+1) rfl];omega
   show(slotsC W).length-cnt a5 34<(slotsC W).length-cnt a 34;omega
 . rw[decide_eq_false (by omega),iNs];have hkl:k=(slotsC W).length:=by omega
   have hA':zkJ (slotsC W) tl (blankS W)=some c:=by rw[<-hA,hkl,List.drop_length];rfl
   exact wp_exit (hok c hA' _ _ (h2.trim Stable.none [2,7] [32] (by kernel_rfl)))
def pz9(ws:List ByteArray)(w:Int)(g7:Nat):tSeg zbi zT 9 0 4 ⟨[(2,bA 2 31),(4,AV.sl 1 (List.map nStr ws)),(5,I w),(7,AV.v (.pointer (some ⟨g7,0,none⟩)))],[(2,⟨31,75,[nilOp],true⟩)]⟩=(callD zcJ (cw 41 [I w,AV.v (.pointer (some ⟨g7,0,none⟩))] []) λ(r0:(List zck))=>some ⟨[(34,I 0),(33,I (List.length (mF r0))),(32,.row 32 2 0 (List.length (mF r0))),(31,I w),(2,bA 2 31),(4,AV.sl 1 (List.map nStr ws)),(5,I w),(7,AV.v (.pointer (some ⟨g7,0,none⟩)))],[(32,gU (mF r0)),(2,⟨31,75,[nilOp],true⟩)]⟩):=by kernel_rfl
def pz_mid(ws:List ByteArray)(c:GOp)(W:Nat)(hW:W<12)
  (h:NowP w0 S0 κ0 K zbi.fn.ntmps X0 ⟨[(2,bA 2 31),(4,AV.sl 1 (List.map nStr ws)),(5,I W),(7,bA 7 31)],[(2,⟨31,75,[nilOp],true⟩),(7,pT c)]⟩ a w) {Q:aX} {rest:Code}
  (hQ:∀a' w',NowP w0 S0 κ0 K zbi.fn.ntmps X0 (stL ws c W 0) a' w'->rest.wp zbi.P Q a' w'):(Code.seq (.region 9 (pzO 9) false) rest).wp zbi.P Q a w:=by
 obtain⟨g7,c7,κd,hκd,hg7,h2⟩:=h.leave (B:=7) (k:=7) rfl (by decide) (by kernel_rfl) rfl;have hst7:=Away.stable (w0:=w0) (κ0:=κ0) (K:=K) (B:=7) (e:=pT c) hκd;have hany:Stable X0:=Stable.none
 have h3:NowP w0 S0 κ0 K zbi.fn.ntmps (λS κ L w=>Away w0 κ0 K 7 (pT c) g7 κd S κ L w/\X0 S κ L w)
   ⟨[(2,bA 2 31),(4,AV.sl 1 (List.map nStr ws)),(5,I W),(7,AV.v (.pointer (some ⟨g7,0,none⟩)))],[(2,⟨31,75,[nilOp],true⟩)]⟩ a w:=by
  obtain⟨S,κ,hg,hx⟩:=h2;have q1:=GoodS.set hg 7 (.v (.pointer (some ⟨g7,0,none⟩))) (by rw[hg7];exact .c (.v _));exact NowP.trim (hst7.both hany) ⟨S,κ,q1,hx,trivial⟩ [2,4,5,7] [] (by kernel_rfl)
 have z9:(pzO 9).size=4:=by kernel_rfl
 have t9:=pz9 ws (W:Nat) g7;rw[zAA g7 hW,zeP]at t9;refine wp_seq (wp_region ?_);rw[z9,show List.range 4=List.range' 0 4++[]from rfl];refine segP (hst7.both hany) pz_hb pz_n pz_r9 t9 (by rw[z9];decide) h3 (λa2 w2 h4=>?_);show rest.wp zbi.P Q a2 w2;have h5:=h4.trim (hst7.both hany) [2,4,7,32,33,34] [] (by kernel_rfl) (st':=⟨[(2,bA 2 31),(4,AV.sl 1 (List.map nStr ws)),(7,AV.v (.pointer (some ⟨g7,0,none⟩))),(32,.row 32 2 0 (List.length (mF (slotsS W g7)))),(33,I (List.length (mF (slotsS W g7)))),(34,I 0)],[(2,⟨31,75,[nilOp],true⟩),(32,gU (mF (slotsS W g7)))]⟩);obtain⟨S,κ,hg,hk7,κ1,_⟩:=h5.back hκd (by decide) rfl;have e7:=(hg.slots 7).v_inv
 have q2:=GoodS.set hg 7 (.loc 7 31 0 0) (by
  rw[show a2.tmps.getD 7 undef=_ from e7];have:=VRel.loc (S:=S) (κ:=κ) (D:=λb=>(Ab.look ((7,(pT c:Ent))::(2,(⟨31,75,[nilOp],true⟩:Ent))::[(32,(gU (mF (slotsS W g7)):Ent))]) b).isSome=true) (w:=w2) 7 31 0 0 g7 c7 (by rfl) hk7
  exact this)
 have q4:=GoodS.reent q2 (B:=32) (ent':=⟨2,149,tsP W,true⟩) rfl (view_put hW hk7 (by rfl) (hg.ents 32 _ rfl))
 exact hQ _ _ (NowP.trim Stable.none (X:=X0) ⟨S,κ,q4,trivial⟩ [2,4,7,32,33,34] [] (by
  unfold stL;rw[show(slotsC W).length=(mF (slotsS W g7)).length by unfold slotsS;simp]
  rfl))
def load_op{N:Nat}{ops:aT}{Q:aX}{i d:Nat}{st:St}{X:Sat2}{K':aj}(ho:opIs ops i d (.load 141 (.global 0)))(hd:d<N)(h:NowP w0 S0 κ0 K N X st a w)
  (hK:∀a',NowP w0 S0 κ0 K N X { st with t:=(d,.agg (zd1.map AV.v))::st.t } a' w->K' a' w):wpOp zP ops Q i K' a w:=by
 obtain⟨S,κ,h1,h2⟩:=h;obtain⟨o,o1,o2,o3,o4⟩:=ho.get;have hvs:VRel S κ (λb=>(Ab.look st.m b).isSome=true) w (.fp (zd1.map AV.v)) (.pointer (some ⟨0,0,none⟩)):=.c (zGp (Good.okw h1));have hi:aLoad zP (λ_=>none) 141 (.fp (zd1.map AV.v))=some { val:=.agg (zd1.map AV.v) }:=by kernel_rfl
 obtain⟨y,e1,e2,_⟩:=zw3 (w:=w) hi hvs (λb ent hb=>by cases hb);refine zuU (w':=w) (y:=y) o1 o4 ?_ ?_
 .have:(Instr.loadAt 141 (a.eval (.global 0))).run zP w=.ok y w:=e1;simp[execOp,o3,this]
 .rw[o2];exact hK _ ⟨S,κ,h1.put hd _ _ e2,h2⟩
abbrev stO(ws:List ByteArray)(i:Int):St:=⟨[(2,bA 2 31),(4,AV.sl 1 (List.map nStr ws)),(12,AV.agg (zd1.map AV.v)),(13,I i)],[(2,⟨31,75,[nilOp],true⟩)]⟩
def pz2(ws:List ByteArray):tSeg zbi zT 2 1 1 ⟨[(12,AV.agg (zd1.map AV.v)),(2,bA 2 31),(4,AV.sl 1 (List.map nStr ws))],[(2,⟨31,75,[nilOp],true⟩)]⟩ =
  some ⟨[(13,I 0),(12,AV.agg (zd1.map AV.v)),(2,bA 2 31),(4,AV.sl 1 (List.map nStr ws))],[(2,⟨31,75,[nilOp],true⟩)]⟩:=by kernel_rfl
def zFk(c:UInt8):∀(l:List UInt8),∀x∈splitC c l,x.length<=l.length
 |[],x,h=>by rw[show splitC c []=[[]]from rfl]at h;rw[zbs.1 h];exact zav _
 |b::r,x,h=>by
   have ih:=zFk c r;unfold splitC at h;split at h
   . rcases zat.1 h with rfl|h
     .simp
     .exact Nat.le_succ_of_le (ih x h)
   . cases hr:splitC c r with
     |nil=>exact absurd hr (zwt c r)
     |cons a t =>
       rw[hr]at h ih;rcases zat.1 h with rfl|h
       .have:=ih a zdy;simp;omega
       .exact Nat.le_succ_of_le (ih x (zbG _ h))
def formOfK_eq{k:Nat}{hd:List UInt8}(hk:k<12)(h1:∀j<k,kw j≠hd)(h2:kw k=hd):zkF hd=k:=by
 unfold zkF
 have:(List.range 12).find? (λw=>kw w==hd)=some k:=by rw[List.find?_range_eq_some];refine⟨by simp[h2],zgq.2 hk,λj hj=>by simp[h1 j hj]⟩
 rw[this];rfl
def zKi{hd:List UInt8}(h:∀j<12,kw j≠hd):zkF hd=12:=by
 unfold zkF
 have:(List.range 12).find? (λw=>kw w==hd)=none:=by rw[List.find?_range_eq_none];exact λj hj=>by simp[h j hj]
 rw[this];rfl
def forms_get{k:Nat}(hk:k<12):(formsT.map λp=>(⟨tx p.1,p.2⟩:zgQ))[k]?=some ⟨tx (kw k),(((slotsC k).length+1:Nat):Int)⟩:=by rcases lt12 hk with rfl|rfl|rfl|rfl|rfl|rfl|rfl|rfl|rfl|rfl|rfl|rfl<;>rfl
def pz_body{l:List UInt8}(hl:l.length<4294967281)(h:NowP w0 S0 κ0 K zbi.fn.ntmps X0 ⟨[(0,AV.v (.string (tx l)))],[]⟩ a w):pzC.wp zbi.P (PostC w0 S0 κ0 K zbi.fn.ntmps .ret (stR (parS l))) a w:=by
 have fin:∀a' w',NowP w0 S0 κ0 K zbi.fn.ntmps X0 (stR (parS l)) a' w'->PostC w0 S0 κ0 K zbi.fn.ntmps .ret (stR (parS l)) .ret a' w':=λa' w' hn=>by obtain⟨S,κ,hg,_⟩:=hn;exact⟨rfl,S,κ,hg⟩
 rw[pz_shape];refine wp_seq (pzStep pz_r0 (pz0 (tx l)) h (λa1 w1 h1=>?_));have t1:=pz1 (tx l);rw[show(({ data:={ toList:=[32] } }:ByteArray))=tx [32]from rfl,c_Split hl,zr1]at t1;refine wp_seq (pzStep pz_r1 t1 h1 (λa2 w2 h2=>?_));have hsum:∀x∈splitC 32 l,x.length<4294967281:=λx hx=>zeu (zFk 32 l x hx) hl
 have hslen:=zyT 32 l;have hpar:parS l=(match splitC 32 l with|[]=>none|k::ws=>if zkF k<12/\ws.length=(slotsC (zkF k)).length then zkJ (slotsC (zkF k)) ws (blankS (zkF k))else none):=rfl;have hne:=zwt 32 l;generalize splitC 32 l=wl at h2 hsum hslen hpar hne
 cases wl with
 |nil=>exact absurd rfl hne
 |cons hd tl =>
 simp only at hpar
 have h3:=h2.freeze Stable.none pz_n [11] rfl (st':=⟨[(2,bA 2 31),(4,.sl 1 (List.map nStr ((hd::tl).map tx)))],[(2,⟨31,75,[nilOp],true⟩)]⟩) (by
  generalize List.map nStr ((hd::tl).map tx)=xs
  simp[zd8,zqP,znl,zeQ,snap,Ab.look])
 have z2:(pzO 2).size=2:=by kernel_rfl
 refine wp_seq (wp_seq (wp_region ?_));rw[z2,show List.range 2=0::(List.range' 1 1++[])from rfl,wpOps_cons];refine load_op (d:=12) (by unfold opIs;kernel_rfl) (by decide) h3 (λa4 h4=>?_);refine segP Stable.none pz_hb pz_n pz_r2 (pz2 ((hd::tl).map tx)) (by rw[z2];decide) h4 (λa5 w5 h5=>?_);have h6:=h5.trim Stable.none [2,4,12,13] [] (st':=stO ((hd::tl).map tx) 0) (by kernel_rfl);refine wp_block (wp_loop (λa w=>∃k:Nat,k<=12/\(∀j<k,kw j≠hd)/\NowP w0 S0 κ0 K zbi.fn.ntmps X0 (stO ((hd::tl).map tx) k) a w) (λa _=>12-cnt a 13) ⟨0,zcT _,λj hj=>absurd hj (Nat.not_lt_zero j),h6⟩ ?_)
 rintro a w ⟨k,hk,hall,hn⟩
 have hc0:cnt a 13=k:=by rw[hn.cnt (n:=(k:Int)) rfl];simp
 refine wp_seq (pzStep pz_r3 (pz3 ((hd::tl).map tx) k) hn (λa7 w7 h7=>?_));refine wp_seq (wp_cond (h7.bool (b:=decide ((k:Int)<12)) rfl) ?_);by_cases hlt:k<12
 rotate_left
 . rw[decide_eq_false (by omega),iNs];have hkl:k=12:=by omega
   subst hkl;have hF:=zKi hall;have hP:parS l=none:=by rw[hpar,if_neg (λq=>by omega)]
   have h8:=h7.trim Stable.none [2] [] (st':=⟨[(2,bA 2 31)],[(2,⟨31,75,[nilOp],true⟩)]⟩) (by kernel_rfl);refine wp_exit (wp_seq (pzStep pz_r17 pz17 h8 (λa9 w9 h9=>wp_ret ?_)));refine fin a9 w9 ?_;rw[hP];exact h9
 rw[decide_eq_true (by omega),if_pos rfl];refine wp_skip ?_;have h8:=h7.trim Stable.none [2,4,12,13] [] (st':=stO ((hd::tl).map tx) k) (by kernel_rfl);have t4:=pz4 k hlt ((hd::tl).map tx);rw[cPQ,cPQ,zAR,show((k:Nat):Int).toNat=k from rfl,forms_get hlt,zad]at t4;refine wp_seq (wp_block (wp_seq (pzStep pz_r4 t4 h8 (λa9 w9 h9=>?_))));have t5:=pz5 ((hd::tl).map tx) k (tx (kw k)) (((slotsC k).length+1:Nat):Int);rw[zam (by decide),zwi,show Int.toNat 0=0 from rfl]at t5;simp only[zbx]at t5;rw[zbI,zad,tx_beq]at t5;refine wp_seq (wp_seq (pzStep pz_r5 t5 h9 (λaA wA hA=>?_)));refine wp_cond (hA.bool (b:=!decide (kw k=hd)) rfl) ?_;by_cases hkw:kw k=hd
 rotate_left
 . rw[decide_eq_false hkw,zbe,if_pos rfl];have hB:=hA.trim Stable.none [2,4,12,13] [6] (st':=stO ((hd::tl).map tx) k) (by kernel_rfl);refine wp_exit ?_;refine pzStep pz_r16 (pz16 ((hd::tl).map tx) k) hB (λaC wC hC=>?_);rw[w6Q]at hC;refine⟨⟨k+1,hlt,λj hj=>?_,by exact_mod_cast hC⟩,?_⟩
   . rcases Nat.lt_succ_iff_lt_or_eq.1 hj with q|q
     .exact hall j q
     .rw[q];exact hkw
   . have:cnt aC 13=k+1:=by rw[hC.cnt (n:=(k:Int)+1) rfl];omega
     show 12-cnt aC 13<12-cnt a 13;omega
 rw[decide_eq_true hkw,zaS,iNs];refine wp_skip ?_;have hF:=formOfK_eq hlt hall hkw;rw[hF]at hpar;have hB:=hA.trim Stable.none [2,4,5,6] [] (st':=⟨[(2,bA 2 31),(4,AV.sl 1 (List.map nStr ((hd::tl).map tx))),(5,I k),(6,bA 6 2)],[(2,⟨31,75,[nilOp],true⟩),(6,⟨2,140,[zgX ⟨tx (kw k),(((slotsC k).length+1:Nat):Int)⟩],true⟩)]⟩) (by kernel_rfl);refine wp_seq (wp_seq (pzStep pz_r6 (pz6 ((hd::tl).map tx) k (tx (kw k)) (((slotsC k).length+1:Nat):Int)) hB (λaC wC hC=>?_)));refine wp_cond (hC.bool (b:=(((List.map nStr ((hd::tl).map tx)).length:Int) !=(((slotsC k).length+1:Nat):Int))) rfl) ?_;by_cases hwl:tl.length=(slotsC k).length
 rotate_left
 . rw[show((((List.map nStr ((hd::tl).map tx)).length:Int) !=(((slotsC k).length+1:Nat):Int)))=true from by rw[bne_iff_ne,zab,zab,zaJ];omega,if_pos rfl];have hP:parS l=none:=by rw[hpar,if_neg (λq=>hwl q.2)]
   have hD:=hC.trim Stable.none [2] [] (st':=⟨[(2,bA 2 31)],[(2,⟨31,75,[nilOp],true⟩)]⟩) (by kernel_rfl);refine wp_seq (pzStep pz_r7 pz7 hD (λaE wE hE=>wp_ret (fin aE wE ?_)));rw[hP];exact hE
 rw[show((((List.map nStr ((hd::tl).map tx)).length:Int) !=(((slotsC k).length+1:Nat):Int)))=false from by rw[bne_eq_false_iff_eq,zab,zab,zaJ];omega,iNs];refine wp_skip ?_;rw[if_pos ⟨hlt,hwl⟩]at hpar;have hD:=hC.trim Stable.none [2,4,5] [] (st':=⟨[(2,bA 2 31),(4,AV.sl 1 (List.map nStr ((hd::tl).map tx))),(5,I k)],[(2,⟨31,75,[nilOp],true⟩)]⟩) (by kernel_rfl);have t8:=pz8 ((hd::tl).map tx) k;rw[c_blank hlt,znx]at t8;refine wp_seq (pzStep pz_r8 t8 hD (λaE wE hE=>?_));refine wp_seq (pz_mid _ _ k hlt hE (λaF wF hF'=>?_));refine pz_loop hd tl k hlt hwl (λx hx=>hsum x (by simp[hx])) hF' (λo ho aG wG hG=>?_) (λhb aG wG hG=>?_)
 .refine wp_seq (pzStep pz_r15 (pz15 o) hG (λaH wH hH=>wp_ret (fin aH wH ?_)));rw[hpar,ho];exact hH
 .refine fin aG wG ?_;rw[hpar,hb];exact hG
def par_ok:CallOK zP (single 12 zOrc):=by
 refine ora (o:=oPar) (λargs=>by unfold zOrc;simp(decide:=true) only [if_false,if_true]) pz_enters (λargs r ms' hr=>?_);unfold oPar at hr;split at hr
 case h_2=>cases hr
 rename_i s;split at hr
 case isFalse=>cases hr
 rename_i hs;injection hr with hr;injection hr with h1 h2;subst h1 h2;refine⟨rfl,λw S κ vals hvl hS hk hv=>?_⟩;have hf:zbi.P.funcs[12]?=some zbi.fn:=by kernel_rfl
 refine zwg (args:=[AV.v (.string s)]) (ms:=[]) (frz:=false) (ex:=.ret) (st:=stR (parS s.data.toList)) hf pz_hb (show 1<=zbi.fn.ntmps by decide) hvl hS hk hv (λb ent hb=>by simp[Ab.look]at hb) (λb b' g c c' hd=>by simp[Dm,Ab.look]at hd) (λid=>by simp) (λa hg=>?_) ?_ ?_ ?_
 .obtain⟨S,κ,hg⟩:=hg;have hl:s.data.toList.length<4294967281:=hs;exact pz_body hl ⟨S,κ,hg,trivial⟩
 .unfold parR;cases parS s.data.toList<;>kernel_rfl
 .kernel_rfl
 .unfold parR;cases parS s.data.toList<;>kernel_rfl
def zBv{l:List UInt8}(hl:l.length<4294967281):cw 12 [.v (.string (tx l))] []=some (zrB (parR l)):=by refine zqS par_ok ?_;show(if(tx l).size<4294967281 then some (AV.tup [AV.agg (nGOp (parR (tx l).data.toList).1),I (parR (tx l).data.toList).2],[])else none)=_;rw[if_pos (by rw[zdI];exact hl),zhV];rfl
end
end Go.Proofs.YtcpnffbcljkbkaaGreatDoor
namespace Go.Proofs.YtcpnffbcljkbkaaGreatDoor
open Go.Ab Go.Str
set_option maxRecDepth 100000
def readP:List (List UInt8)->List GOp->Int->List GOp×Int×Int
 |[],_,_=>([],0,0)
 |[x],acc,n=>if x=[]then(if 300<acc.length then([],0,3)else(acc,0,0))else([],n,7)
 |x::y::r,acc,n=>match parS x with
   |none=>([],n,7)
   |some o=>readP (y::r) (acc++[o]) (n+1)
def readS(l:List UInt8):List GOp×Int×Int:=readP (splitC 10 l) [] 1
def readP_none{x y:List UInt8}{r:List (List UInt8)}{acc:aU}{n:Int}(h:parS x=none):readP (x::y::r) acc n=([],n,7):=by rw[readP,h]
def readP_some{x y:List UInt8}{r:List (List UInt8)}{acc:aU}{n:Int}{o:GOp}(h:parS x=some o):readP (x::y::r) acc n=readP (y::r) (acc++[o]) (n+1):=by rw[readP,h]
def c_Read1:∀(m:Nat) (l:List UInt8) (acc:aU) (n:Int),l.length<=m->0<=n->n+l.length<=1000000000->acc.length+l.length<=1000000000->zmF (mE acc) (tx l) n=some (zo6 (readP (splitC 10 l) acc n)):=by
 intro m
 induction m with
 |zero =>
   intro l acc n hm hn h1 h2;obtain rfl:l=[]:=zd6.1 (by omega);refine zvG ?_;rw[show(zpl:ByteArray)=tx []from rfl,tx_beq,decide_eq_true rfl,zaS,zaB,show splitC 10 []=[[]]from rfl,readP,if_pos rfl];by_cases h3:300<acc.length
   .rw[zaz (by rw[zab];omega),cPQ,if_pos h3];rfl
   .rw[zaC (by rw[zab];omega),cPQ,if_neg h3,zbn];rfl
 |succ m ih =>
   intro l acc n hm hn h1 h2;by_cases he:l=[]
   .subst he;exact ih [] acc n (by simp) hn h1 h2
   refine zvG ?_;rw[show(zpl:ByteArray)=tx []from rfl,tx_beq,decide_eq_false he,zbe,zaM,show(zt8:ByteArray)=tx [10]from rfl,c_Cut (by omega),zB1];rcases Int.lt_or_le (Lib.index l [10]) 0 with hx|hx
   . have hx1:Lib.index l [10]=-1:=by have:=Lib.index_ge l [10];omega
     have e:Lib.cut l [10]=(l,[],false):=by unfold Lib.cut;rw[iNQ]
     rw[e,zbe,zaM,cPQ,zxn 10 l hx1,readP,if_neg he];rfl
   . obtain⟨i,hi⟩:=Int.eq_ofNat_of_zero_le hx;have hs:=zyS 10 l i hi;have e:Lib.cut l [10]=(l.take i,l.drop (i+1),true):=by unfold Lib.cut;rw[if_pos hx,hi];simp
     have hpos:0<l.length:=zee.2 he;rw[e,zaS,zaB,zBv (by rw[zcH];omega),zki,hs]
     obtain⟨y,r,hy⟩:∃y r,splitC 10 (l.drop (i+1))=y::r:=by
      cases h:splitC 10 (l.drop (i+1))with
      |nil=>exact absurd h (zwt 10 _)
      |cons y r=>exact⟨y,r,rfl⟩
     cases hp:parS (l.take i)with
     |none=>rw[show parR (l.take i)=(zOp,7)by unfold parR;rw[hp],show((7:Int) !=0)=true from rfl,zaM,cPQ,hy,readP_none hp];rfl
     |some o=>rw[show parR (l.take i)=(o,0)by unfold parR;rw[hp],show((0:Int) !=0)=false from rfl,zaB,hy,readP_some hp,<-hy];have hnext:=ih (l.drop (i+1)) (acc++[o]) (n+1) (by rw[zdk];omega) (by omega) (by rw[zdk];omega) (by rw[zdk];simp;omega);rw[zam rfl,zam (by rw[zab];omega),zam rfl,w6Q];rw[show mE acc++[nGOp o]=mE (acc++[o])by simp];exact hnext
def c_Read{l:List UInt8}(hl:l.length<=900000000):cw 14 [.v (.string (tx l))] []=some (zo6 (readS l)):=
 zFT (c_Read1 l.length l [] 1 (zav _) (by omega) (by omega) (by simp;omega))
end Go.Proofs.YtcpnffbcljkbkaaGreatDoor
end
