/- Values that are read from a world, bc abstract values: for parameters of any plain type. -/
import Derived.Test.YtcpnffbcljkbkaaGreatDoorAb2
import Derived.OpenShut
import Derived.DataElems
import Derived.ChangeArms
import Derived.Test.YtcpnffbcljkbkaaGreatDoorRows
import Derived.Test.YtcpnffbcljkbkaaGreatDoorXCs
import Derived.Test.YtcpnffbcljkbkaaGreatDoorXSp
import Derived.Lib.LaidTab
import Derived.MakeChecks
import Derived.Test.YtcpnffbcljkbkaaGreatDoorK1
import Derived.Test.YtcpnffbcljkbkaaGreatDoorAb0
import Derived.Lib.Mul64
set_option linter.all false
noncomputable section
namespace Go.Ab
open Go.RowKit
def w6Q{n:Int}(h1:-9223372036854775808<=n:=by omega)(h2:n<9223372036854775808:=by omega):w64 n=n:=w64_id h1 h2
def iNQ{c:Prop}[Decidable c]{α:Type}{t e:α}(h:¬c:=by omega):ite c t e=e:=if_neg h
def iPQ{c:Prop}[Decidable c]{α:Type}{t e:α}(h:c:=by omega):ite c t e=t:=if_pos h
def iNs{c:Prop}[Decidable c]{α:Type}{t e:α}(h:¬c:=by simp):ite c t e=e:=if_neg h
def cPQ{p:Prop}{β:Type}{x:Option β}(h:p:=by omega):chk p x=x:=zam h x
abbrev Old(w:World):Nat->Prop:=λg=>g<w.heap.size
def Rd(P:Program)(w:World)(t:TypeId)(n:Nat){T:Type}(nT:T->List AV):Prop:=
 P.cellsOf t=n/\(∀v,(nT v).length=n)/\∀(H:Type) (enc:TypeId×Value->H) (base:Nat) (spare:Nat->Bool) (held:Bool) (fuel:Nat) (cs:af) (x:DataW H×List MemPlace),DataW.trod enc P w base spare held fuel t cs=some x->∃v:T,cs.length=n/\∀(j:Nat) (c:AV) (y:Value),(nT v)[j]?=some c->cs[j]?=some y->CRel (Old w) w c y/\y.oneCell'=true
def rd_int{P:Program}{w:World}{t:TypeId}{k:IntKind}(hc:P.cellsOf t=1)(ht:P.underlying t=some (.int k)):Rd P w t 1 (λn:Int=>[AV.v (.int k n)]):=by
 refine⟨hc,λ_=>rfl,λH enc base spare held fuel cs x h=>?_⟩;obtain⟨n,rfl,_,_⟩:=DataW.trod_int ht h;refine⟨n,rfl,λj c y h1 h2=>?_⟩
 cases j with
 |zero=>simp at h1 h2;subst h1;subst h2;exact⟨.v _,rfl⟩
 |succ j=>simp at h1
def list_of{T:Type}{R:Nat->T->Prop}:∀n:Nat,(∀i,i<n->∃v,R i v)->∃l:List T,l.length=n/\∀i v,l[i]?=some v->R i v
 |0,_=>⟨[],rfl,λi v h=>by simp at h⟩
 |n+1,h=>by
   obtain⟨l,h1,h2⟩:=list_of n (λi hi=>h i (by omega));obtain⟨v,hv⟩:=h n (by omega);refine⟨l++[v],by simp[h1],λi u hu=>?_⟩;by_cases hi:i<n
   .rw[zeJ (by omega)]at hu;exact h2 i u hu
   . have hlt:=(zal.1 hu).1;simp at hlt;have:i=l.length:=by omega
     subst this;rw[List.getElem?_append_right (by omega)]at hu;simp at hu;subst hu;rw[h1];exact hv
def rd_slice{P:Program}{w:World}{t e:TypeId}{n:Nat}{T:Type}{nT:T->List AV}(hc:P.cellsOf t=1)(ht:P.underlying t=some (.slice e))(hn:0<n)(he:Rd P w e n nT):Rd P w t 1 (λl:List T=>[AV.sl n (l.map nT)]):=by
 refine⟨hc,λ_=>rfl,λH enc base spare held fuel cs x h=>?_⟩
 have done:∀(l:List T) (y:Value),CRel (Old w) w (.sl n (l.map nT)) y->y.oneCell'=true->∃v:List T,[y].length=1/\∀(j:Nat) (c:AV) (z:Value),[AV.sl n (v.map nT)][j]?=some c->[y][j]?=some z->CRel (Old w) w c z/\z.oneCell'=true:=by
  intro l y hy h1;refine⟨l,rfl,λj c z hj hz=>?_⟩
  cases j with
  |zero=>simp at hj hz;subst hj;subst hz;exact⟨hy,h1⟩
  |succ j=>simp at hj
 rcases DataW.trod_slice ht h with⟨rfl,_⟩|⟨a,len,cap,elems,rest,m,rfl,rfl,_,hb,hl,_,hlen,hel,_,_⟩
 .exact done [] _ (CRel.nil_sl n) rfl
 . have each:∀i,i<len->∃v:T,a.block<w.heap.size/\∀(j:Nat) (c:AV),(nT v)[j]?=some c->∃y,w.cell? (a.add (i*n+j))=some y/\CRel (Old w) w c y/\y.oneCell'=true:=by
    intro i hi;have h1:=hel i hi;rw[zaa (by omega),he.1]at h1;obtain⟨cs',h2,h3⟩:=Option.bind_eq_some_iff.1 h1;obtain⟨v,h4,h5⟩:=he.2.2 H enc base spare held m cs' _ h3;obtain⟨h6,h7,h8⟩:=World.cells?_some h2;have hblk:=World.cells?_block h2 hn;rw[zmq]at hblk;refine⟨v,hblk,λj c hj=>?_⟩;have hjn:j<n:=by have:=(zal.1 hj).1;rw[he.2.1]at this;exact this
    have h9:=h8 j hjn;rw[Go.Addr.add_add]at h9;have h10:cs'[j]?=some (cs'[j]'(by omega)):=zaa (by omega);refine⟨cs'[j]'(by omega),by rw[h9,h10],h5 j c _ hj h10⟩
   obtain⟨l,hll,hlr⟩:=list_of len each;refine done l _ (.sl n _ (some a) len cap (λi j=>(w.cell? (a.add (i*n+j))).getD undef) (by simp;omega) hl (λcs hcs=>by obtain⟨v,_,rfl⟩:=zbf.1 hcs;exact he.2.1 v) ?_ ?_) rfl
   . cases l with
     |nil=>left;rfl
     |cons v l'=>right;refine⟨a,rfl,(hlr 0 v rfl).1,λi j cs c h1 h2=>?_⟩;rw[zbv]at h1;obtain⟨u,hu,rfl⟩:=zdH.1 h1;obtain⟨y,hy,hr,ho⟩:=(hlr i u hu).2 j c h2;rw[hy];exact⟨rfl,ho⟩
   .intro i j cs c h1 h2;rw[zbv]at h1;obtain⟨u,hu,rfl⟩:=zdH.1 h1;obtain⟨y,hy,hr,ho⟩:=(hlr i u hu).2 j c h2;rw[hy];exact hr
def arg_cell{P:Program}{w:World}{t:TypeId}{T:Type}{f:T->AV}(hr:Rd P w t 1 (λv=>[f v])){H:Type}{enc:TypeId×Value->H}{base:Nat}{spare:Nat->Bool}{held:Bool}{y:Value}(hy:y.cells.toList=[y]){d:DataW H}{ps:List MemPlace}
  (h:DataW.Trod enc P w base spare held t y d ps) {κ:Kap} {D:aD}:∃v:T,VRel (Old w) κ D w (f v) y:=by
 obtain⟨fuel,hf⟩:=h;rw[hy]at hf;obtain⟨v,_,h2⟩:=hr.2.2 H enc base spare held fuel _ _ hf;exact⟨v,.c (h2 0 _ _ rfl rfl).1⟩
end Go.Ab
namespace Go.Ab
open Go.RowKit Go.Proofs.YtcpnffbcljkbkaaGreatDoor
abbrev bulk{H:Type}(d:DataW H):Nat:=Rows.uptoBulk d
abbrev bulks{H:Type}(l:List (DataW H)):Nat:=Rows.uptoBulkAll l
def RdQ(P:Program)(w:World)(t:TypeId)(n:Nat){T:Type}(nT:T->List AV)(Q:T->Prop)(S:T->Nat):Prop:=
 P.cellsOf t=n/\(∀v,(nT v).length=n)/\∀(H:Type) (enc:TypeId×Value->H) (base:Nat) (spare:Nat->Bool) (held:Bool) (fuel:Nat) (cs:af) (x:DataW H×List MemPlace),DataW.trod enc P w base spare held fuel t cs=some x->∃v:T,cs.length=n/\Q v/\S v<=bulk x.1/\∀(j:Nat) (c:AV) (y:Value),(nT v)[j]?=some c->cs[j]?=some y->CRel (Old w) w c y/\y.oneCell'=true
def bulk_pos{H:Type}(d:DataW H):1<=bulk d:=by
 cases d with
 |lit l=>cases l<;>simp[bulk,Rows.uptoBulk]
 |nil=>simp[bulk,Rows.uptoBulk]
 |ptr d=>simp[bulk,Rows.uptoBulk]
 |slice elems spare=>simp[bulk,Rows.uptoBulk]
 |agg parts=>simp[bulk,Rows.uptoBulk]
 |iface t d=>simp[bulk,Rows.uptoBulk]
 |map entries=>simp[bulk,Rows.uptoBulk]
 |held h=>simp[bulk,Rows.uptoBulk]
def rq_int{P:Program}{w:World}{t:TypeId}(hc:P.cellsOf t=1)(ht:P.underlying t=some (.int .i64)):RdQ P w t 1 (λn:Int=>[AV.v (.int .i64 n)]) (λn=>-9223372036854775808<=n/\n<=9223372036854775807) (λ_=>1):=by
 refine⟨hc,λ_=>rfl,λH enc base spare held fuel cs x h=>?_⟩;obtain⟨n,rfl,_,hw⟩:=DataW.trod_int ht h;refine⟨n,rfl,?_,bulk_pos _,λj c y h1 h2=>?_⟩
 .have h2:(decide (IntKind.min .i64<=n)&&decide (n<=IntKind.max .i64))=true:=hw;rw[zaU,decide_eq_true_eq,decide_eq_true_eq]at h2;exact h2
 . cases j with
   |zero=>simp at h1 h2;subst h1;subst h2;exact⟨.v _,rfl⟩
   |succ j=>simp at h1
def rq_map{P:Program}{w:World}{t:TypeId}{n:Nat}{T U:Type}{nT:T->List AV}{nU:U->List AV}{Q:T->Prop}{S:T->Nat}{Q':U->Prop}{S':U->Nat}(h:RdQ P w t n nT Q S)(g:T->U)(hg:∀v,nU (g v)=nT v)(hl:∀u,(nU u).length=n)(hQ:∀v,Q v->Q' (g v))(hS:∀v,S' (g v)<=S v):RdQ P w t n nU Q' S':=by refine⟨h.1,hl,λH enc base spare held fuel cs x hx=>?_⟩;obtain⟨v,h1,h2,h3,h4⟩:=h.2.2 H enc base spare held fuel cs x hx;exact⟨g v,h1,hQ v h2,za5 (hS v) h3,by rw[hg];exact h4⟩
def RqF(P:Program)(w:World)(fs:List Field)(off n:Nat){T:Type}(nT:T->List AV)(Q:T->Prop)(S:T->Nat):Prop:=
 (∀v,(nT v).length=n)/\∀(H:Type) (enc:TypeId×Value->H) (base:Nat) (spare:Nat->Bool) (held:Bool) (fuel:Nat) (cs:af) (xs:List (DataW H×List MemPlace)),off+n<=cs.length->xs.length=fs.length->(∀(i:Nat) (f:Field),fs[i]?=some f->DataW.trod enc P w base spare held fuel f.type ((cs.drop f.offset).take (P.cellsOf f.type))=xs[i]?)->∃v:T,Q v/\S v<=bulks (xs.map (·.1))/\∀(j:Nat) (c:AV) (y:Value),(nT v)[j]?=some c->cs[off+j]?=some y->CRel (Old w) w c y/\y.oneCell'=true
def rqf_nil{P:Program}{w:World}{off:Nat}:RqF P w [] off 0 (λ_:Unit=>[]) (λ_=>True) (λ_=>0):=
 ⟨λ_=>rfl,λ_ _ _ _ _ _ _ _ _ _ _=>⟨(),trivial,zcT _,λj c y h=>by simp at h⟩⟩
def zvF{P:Program}{w:World}{f:Field}{fs:List Field}{off n m:Nat}{A B:Type}{nA:A->List AV}{nB:B->List AV}{QA:A->Prop}{SA:A->Nat}{QB:B->Prop}{SB:B->Nat}(hA:RdQ P w f.type n nA QA SA)(ho:f.offset=off)(hB:RqF P w fs (off+n) m nB QB SB):RqF P w (f::fs) off (n+m) (λv:A×B=>nA v.1++nB v.2) (λv=>QA v.1/\QB v.2) (λv=>SA v.1+SB v.2):=by
 refine⟨λv=>by simp[hA.2.1,hB.1],λH enc base spare held fuel cs xs hl hx h=>?_⟩
 cases xs with
 |nil=>simp at hx
 |cons x xs =>
   obtain⟨a,h1,hqa,hsa,h2⟩:=hA.2.2 H enc base spare held fuel _ x (h 0 f rfl);obtain⟨b,hqb,hsb,h3⟩:=hB.2 H enc base spare held fuel cs xs (by omega) (by simpa using hx) (λi g hg=>by simpa using h (i+1) g (by simpa using hg));refine⟨(a,b),⟨hqa,hqb⟩,?_,λj c y hj hy=>?_⟩
   .simp only[zbx,bulks,Rows.uptoBulkAll]at hsb ⊢;simp only[bulk]at hsa;omega
   by_cases hjn:j<n
   .rw[zeJ (by rw[hA.2.1];exact hjn)]at hj;refine h2 j c y hj ?_;rw[List.getElem?_take_of_lt (by rw[hA.1];exact hjn),zb6,ho];exact hy
   .rw[List.getElem?_append_right (by rw[hA.2.1];omega),hA.2.1]at hj;refine h3 (j-n) c y hj ?_;rw[show off+n+(j-n)=off+j by omega];exact hy
def rq_struct{P:Program}{w:World}{t:TypeId}{fs:Array Field}{n:Nat}{T:Type}{nT:T->List AV}{Q:T->Prop}{S:T->Nat}(hc:P.cellsOf t=n)(ht:P.underlying t=some (.struct fs))(hf:RqF P w fs.toList 0 n nT Q S):RdQ P w t n nT Q S:=by refine⟨hc,hf.1,λH enc base spare held fuel cs x h=>?_⟩;obtain⟨xs,m,rfl,rfl,h2,h3,h4⟩:=DataW.trod_struct ht h;obtain⟨v,hq,hs,hv⟩:=hf.2 H enc base spare held m cs xs (by omega) (by simpa using h3) (λi f hi=>h4 i f (by simpa using hi));refine⟨v,by omega,hq,?_,by simpa using hv⟩;simp only[bulk,bulks,Rows.uptoBulk]at hs ⊢;omega
def argq_agg{P:Program}{w:World}{t:TypeId}{n:Nat}{T:Type}{nT:T->List AV}{Q:T->Prop}{S:T->Nat}(hr:RdQ P w t n nT Q S){H:Type}{enc:TypeId×Value->H}{base:Nat}{spare:Nat->Bool}{held:Bool}{vs:aV}{d:DataW H}{ps:List MemPlace}
  (h:DataW.Trod enc P w base spare held t (.agg vs) d ps) {κ:Kap} {D:aD}:∃v:T,Q v/\S v<=bulk d/\VRel (Old w) κ D w (.agg (nT v)) (.agg vs):=by
 obtain⟨fuel,hf⟩:=h;obtain⟨v,h1,hq,hs,h2⟩:=hr.2.2 H enc base spare held fuel _ _ hf;have hvs:(Value.agg vs).cells.toList=vs.toList:=rfl;rw[hvs]at h1 h2;have hlen:vs.size=n:=by simpa using h1
 have hl2:=hr.2.1 v;refine⟨v,hq,hs,.c (.agg _ _ (by omega) ?_ ?_)⟩
 .intro x hx;obtain⟨i,hi,rfl⟩:=Array.mem_iff_getElem.1 hx;exact(h2 i ((nT v)[i]'(by omega)) _ (zaa _) (by simp[hi])).2
 .intro j c x hj hx;exact(h2 j c x hj (by simpa using hx)).1
end Go.Ab
namespace Go.Proofs.YtcpnffbcljkbkaaGreatDoor
open Go.Ab Go.Str
set_option maxRecDepth 100000
abbrev Q3:Int->Prop:=W64
abbrev S3:Int->Nat:=λ_=>1
def rq3(w:World):RdQ Tryz.prog w 3 1 zaj Q3 S3:=rq_int (by kernel_rfl) Tryz.underlying3
def Q24(x:zbo):Prop:=Q3 x.b/\(Q3 x.k/\(Q3 x.R/\(Q3 x.xe/\(Q3 x.xn/\True))))
def S24(x:zbo):Nat:=S3 x.b+(S3 x.k+(S3 x.R+(S3 x.xe+(S3 x.xn+0))))
def rq24(w:World):RdQ Tryz.prog w 24 5 za8 Q24 S24:=by have h:=rq_struct (w:=w) (t:=24) (by kernel_rfl) Tryz.underlying24 (zvF (rq3 w) rfl (zvF (rq3 w) rfl (zvF (rq3 w) rfl (zvF (rq3 w) rfl (zvF (rq3 w) rfl rqf_nil)))));exact rq_map h (λv=>(⟨v.1,v.2.1,v.2.2.1,v.2.2.2.1,v.2.2.2.2.1⟩:zbo)) (λ_=>rfl) (λ_=>rfl) (λ_ h=>h) (λ_=>zav _)
def rd3(w:World):Rd Tryz.prog w 3 1 zaj:=rd_int (by kernel_rfl) Tryz.underlying3
def rd22(w:World):Rd Tryz.prog w 22 1 (λl:List Int=>[AV.sl 1 (l.map zaj)]):=rd_slice (by kernel_rfl) Tryz.underlying22 (by decide) (rd3 w)
def outW_of{o:zbo}(h:Q24 o):OutW o:=⟨h.1,h.2.2.1,h.2.2.2.1,h.2.2.2.2.1⟩
end Go.Proofs.YtcpnffbcljkbkaaGreatDoor
namespace Go.Proofs.YtcpnffbcljkbkaaGreatDoor
open Go.Ab Go.RowKit
def VarRd(P:Program)(w:World)(n:String)(d:DataW Unit):Prop:=
 ∃g t cs fuel p,P.globalNamed n=some g/\(P.globals[g]?).map (·.type)=some t/\w.var? P n=some cs/\DataW.trod (λ_=>()) P w 0 (λ_=>true) false fuel t cs.toList=some (d,p)
def laid_rd{P:Program}{w:World}:∀{l:List (String×DataW Unit)} {ps:List MemPlace},DataW.LaidVars P w l ps->∀n d,(n,d)∈l->VarRd P w n d
 |[],_,_,_,_,hm=>by cases hm
 |(n',d')::r,ps,h,n,d,hm=>by
   obtain⟨g,t,cs,fuel,p,q,h1,h2,h3,h4,h5,_⟩:=h;rcases zat.1 hm with e|e
   .cases e;exact⟨g,t,cs,fuel,p,h1,h2,h3,h4⟩
   .exact laid_rd h5 n d e
def pairs_of{α β:Type}(f:α->List β)(hf:∀x,(f x).length=2):∀(l:List α) (cs:List β),cs.length=2*l.length->(∀i x,l[i]?=some x->(cs.drop (i*2)).take 2=f x)->cs=l.flatMap f
 |[],cs,h,_=>by have:cs=[]:=zd6.1 (by simpa using h);rw[this];rfl
 |x::l,cs,h,hi=>by
   have h0:=hi 0 x rfl;rw[zi5,zfq]at h0
   have ih:=pairs_of f hf l (cs.drop 2) (by rw[zdk,h];simp;omega) (λi y hy=>by
    rw[List.drop_drop,show 2+i*2=(i+1)*2 by omega]
    exact hi (i+1) y (by simpa using hy))
   rw[zem,<-h0,<-ih,zgZ]
def zLA{P:Program}{w:World}{base:Nat}{sp:Nat->Bool}{held:Bool}{fuel:Nat}{t e:TypeId}{f0 f1:Field}{l:List (List UInt8×Int)}{cs:af}{p:List MemPlace}
  (ht:P.underlying t=some (.array l.length e)) (he:P.underlying e=some (.struct #[f0,f1])) (hc:P.cellsOf e=2) (hct:P.cellsOf t=2*l.length)
  (h0:P.underlying f0.type=some .string/\f0.offset=0/\P.cellsOf f0.type=1) (h1:P.underlying f1.type=some (.int .i64)/\f1.offset=1/\P.cellsOf f1.type=1)
  (h:DataW.trod (λ_=>()) P w base sp held fuel t cs=some (.agg (l.map λq=>.agg [.lit (.string q.1),.lit (.int .i64 q.2)]),p)):cs=l.flatMap λq=>[.string (tx q.1),.int .i64 q.2]:=by
 obtain⟨xs,m,rfl,hx,hl,hxl,hall⟩:=DataW.trod_array ht h;refine pairs_of _ (λ_=>rfl) l cs (by rw[hl,hct]) (λi q hq=>?_);have hlt:i<l.length:=(zal.1 hq).1
 have hmap:l.map (λq=>(DataW.agg [.lit (.string q.1),.lit (.int .i64 q.2)]:DataW Unit))=xs.map (·.1):=by have:=congrArg Prod.fst hx;simpa using this
 have hi:=hall i hlt;obtain⟨b,hb⟩:∃b,xs[i]?=some b:=⟨xs[i]'(by omega),zaa (by omega)⟩
 have hb1:b.1=.agg [.lit (.string q.1),.lit (.int .i64 q.2)]:=by have:=congrArg (·[i]?) hmap;simp only[zbv,hq,hb,zcM,zaf]at this;exact this.symm
 rw[hb,hc]at hi;obtain⟨b1,b2⟩:=b;simp only at hb1;subst hb1;generalize (cs.drop (i*2)).take 2=c2 at hi;obtain⟨ys,n,rfl,hy,hl2,hyl,hf⟩:=DataW.trod_struct he hi;rw[hc]at hl2
 have hy2:[(DataW.lit (.string q.1):DataW Unit),.lit (.int .i64 q.2)]=ys.map (·.1):=by have:=congrArg Prod.fst hy;simpa using this
 have e0:=hf 0 f0 rfl;have e1:=hf 1 f1 rfl
 match ys,hy2,hyl with
 |[y0,y1],hy2,_ =>
   simp only[zbx,zeN,zap,and_true]at hy2;rw[h0.2.1,h0.2.2,zbI]at e0;rw[h1.2.1,h1.2.2,zdD,zbI]at e1;obtain⟨s,k1,rfl,_⟩:=DataW.trod_string h0.1 e0;obtain⟨z,k2,rfl,_⟩:=DataW.trod_int h1.1 e1;simp only[DataW.lit.injEq,Lit.string.injEq,Lit.int.injEq,true_and]at hy2
   match c2,hl2 with
   |[v0,v1],_=>simp only[zfq,List.take_succ_cons,zh7,zap,and_true]at k1;simp only[List.drop_succ_cons,zfq,List.take_succ_cons,zh7,zap,and_true]at k2;rw[k1,k2,hy2.1,hy2.2];rfl
def g_type0:(Tryz.prog.globals[0]?).map (·.type)=some 141:=by kernel_rfl
def forms_of{w:World}{d:DataW Unit}(hd:d=.agg (formsT.map λq=>.agg [.lit (.string q.1),.lit (.int .i64 q.2)]))(h:VarRd Tryz.prog w "awardingbody/console.forms" d):w.var? Tryz.prog "awardingbody/console.forms"=some zd1.toArray:=by obtain⟨g,t,cs,fuel,p,hg,ht,hv,hr⟩:=h;obtain rfl:=zbb (g0.symm.trans hg);obtain rfl:=zbb (g_type0.symm.trans ht);rw[hd]at hr;have e:=zLA (l:=formsT) (by kernel_rfl) Tryz.underlying140 (by kernel_rfl) (by kernel_rfl) ⟨by kernel_rfl,rfl,by kernel_rfl⟩ ⟨by kernel_rfl,rfl,by kernel_rfl⟩ hr;rw[hv];unfold zd1;rw[<-e]
def pow_of{w:World}{n:Nat}{t e:TypeId}(hty:(Tryz.prog.globals[2]?).map (·.type)=some t)(ht:Tryz.prog.underlying t=some (.array n e))(he:Tryz.prog.underlying e=some (.int .u64))(hce:Tryz.prog.cellsOf e=1)(hct:Tryz.prog.cellsOf t=n)
  (h:VarRd Tryz.prog w "internal/strconv.uint64pow10" (Lib.tabData .u64 Lib.pow10Tab)):Lib.TabIs Tryz.prog w "internal/strconv.uint64pow10" .u64 Lib.pow10Tab:=by
 obtain⟨g,t',cs,fuel,p,hg,ht',hv,hr⟩:=h;obtain rfl:=zbb (g2.symm.trans hg);obtain rfl:=zbb (hty.symm.trans ht');unfold Lib.TabIs;rw[hv,<-Lib.cells_of_tab ht he hce hct hr]
def var_lt{w:World}{n:String}{g:Nat}{cs:aV}(hg:Tryz.prog.globalNamed n=some g)(h:w.var? Tryz.prog n=some cs):g<w.heap.size:=by
 by_cases hb:g<w.heap.size
 .exact hb
 .have e:w.heap[g]?=none:=zgi (by omega);unfold World.var? at h;rw[hg]at h;simp[e]at h
def vars_of{w:World}{laid:List (String×DataW Unit)}{dF:DataW Unit}(hF:dF=.agg (formsT.map λq=>.agg [.lit (.string q.1),.lit (.int .i64 q.2)]))(h1:("awardingbody/console.forms",dF)∈laid)(h2:("internal/strconv.uint64pow10",(Lib.tabData .u64 Lib.pow10Tab:DataW Unit))∈laid)
  (hn:(laid.all λx=>x.2.handleName?.isNone)=true) (hL:laidMetH Tryz.prog laid w) (hS:w.ShapedOpen Tryz.prog)
  {n:Nat} {t e:TypeId} (hty:(Tryz.prog.globals[2]?).map (·.type)=some t) (ht:Tryz.prog.underlying t=some (.array n e)) (he:Tryz.prog.underlying e=some (.int .u64)) (hce:Tryz.prog.cellsOf e=1) (hct:Tryz.prog.cellsOf t=n):Dr.ok (λg=>g<w.heap.size) w:=by
 rw[Go.MakeChecks.laidMetH_plain _ _ _ hn]at hL;obtain⟨ps,hl,_⟩:=hL;have a:=forms_of hF (laid_rd hl _ _ h1);have c:=pow_of hty ht he hce hct (laid_rd hl _ _ h2);obtain⟨m,hm⟩:=zDM.s1_3 w hS;exact⟨⟨var_lt g0 a,a⟩,⟨block_lt hm,m,hm⟩,var_lt g2 c,c⟩
end Go.Proofs.YtcpnffbcljkbkaaGreatDoor
namespace Go.Proofs.YtcpnffbcljkbkaaGreatDoor
open Go.Ab
variable{α:Type}
def dec(p:Prop):Bool:=@decide p (Classical.propDecidable p)
def AscBy(f:α->Int)(l:List α):Prop:=∀j (hj:j+1<l.length),f l[j]<f l[j+1]
def fnd(p:α->Bool):Nat->List α->Option (Nat×α)
 |_,[]=>none
 |i,x::r=>if p x=true then some (i,x)else fnd p (i+1) r
def OkPart(p:GPart):Prop:=
 (1<=p.N/\p.N<=40)/\(0<=p.xB/\p.xB<16)/\(0<=p.xq/\p.xq<6)/\((p.k=1/\p.X=0/\p.xy=0)\/(p.k=2/\2<=p.X/\p.X<=5/\0<=p.xy/\p.xy<p.X))
def sumMax(l:List GPart):Int:=(l.map (·.N)).sum
def zl0(p:zaQ):Prop:=
 (0<=p.V/\p.V<=31)/\(0<=p.D/\p.D<4)/\(1<=p.d.length/\p.d.length<=24)/\(∀x∈p.d,OkPart x)/\sumMax p.d<=200
def OkKeys(o:Int)(ks:aQ):Prop:=(∀k∈ks,0<=k/\k<o)/\AscBy id ks
def zgr(p:zaQ)(s:zbC):Prop:=
 zl0 p/\s.xb.length=p.d.length/\s.x.length=p.d.length/\∀(j:Nat) (x:GPart) (ks:aQ) (k:Int),p.d[j]?=some x->s.xb[j]?=some ks->s.x[j]?=some k->OkKeys x.X ks/\(0<=k/\k<=2)
def Short(s:zbC):Prop:=∀ks∈s.xb,ks.length<=1000000
def zCY(m:zbA):Prop:=
 (1<=m.ID/\m.ID<=99)/\(-1<=m.w/\m.w<=99)/\(1<=m.U/\m.U<=3)/\(0<=m.xv/\m.xv<=60)/\(∀n∈m.h,0<=n/\n<=31)
def zv2(l:List zbA):Prop:=l.length<=16/\(∀m∈l,zCY m/\AscBy id m.h)/\AscBy zbA.ID l
def zyg(x:zaK):Prop:=
 (0<=x.v/\x.v<=31)/\(0<=x.b/\x.b<=9999)/\(0<=x.w/\x.w<=99)/\(0<=x.D/\x.D<=31)/\x.l=x.v*10000+x.b/\x.r.length<=12
def zsU(l:ab):Prop:=l.length<=60/\(∀x∈l,zyg x)/\AscBy zaK.l l
def OkMon(r:zbT):Prop:=(0<=r.G/\r.G<=200)/\(0<=r.xe/\r.xe<=200)/\(1<=r.xh/\r.xh<=20)/\(1<=r.xa/\r.xa<=r.xh)
def OkAns(p:zaQ)(a:aQ):Prop:=a.length=p.d.length/\∀(j:Nat) (x:GPart) (v:Int),p.d[j]?=some x->a[j]?=some v->x.k≠1->-2<=v/\v<x.X
def zgA(l:ab)(n:Int):Option zaK:=(fnd (λx=>x.l==n) 0 l).map (·.2)
def zfu(ps:List zaQ)(x:zaK):Option (Nat×zaQ):=fnd (λp=>p.V==x.v&&p.D==x.D) 0 ps
def zhh(s:zaZ)(n:Int):Option (Nat×zaQ):=(zgA s.j n).bind (zfu s.h)
def zoR(p:zaQ)(m:aQ):Prop:=m.length=p.d.length/\∀(j:Nat) (x:GPart) (v:Int),p.d[j]?=some x->m[j]?=some v->0<=v/\v<=x.N
structure zc7(s:zaZ):Prop where
 markers:zv2 s.u
 scripts:zsU s.j
 papers:s.h.length<=32
 len:s.H.length=s.h.length
 schemes:∀(j:Nat) (p:zaQ) (c:zbC),s.h[j]?=some p->s.H[j]?=some c->zgr p c
 script:∀x∈s.j,∃(k:Nat) (p:zaQ) (c:zbC),zfu s.h x=some (k,p)/\s.H[k]?=some c/\OkAns p x.I
 seeds:s.B.length<=12
 asc:AscBy GSeed.g s.B
 seed:∀x∈s.B,∃(k:Nat) (p:zaQ),zhh s x.g=some (k,p)/\zoR p x.xc
 monitor:OkMon s.O
 short:∀c∈s.H,Short c
 short2:∀m∈s.u,m.h.length<=1000000
def zuV(s:zb8):Prop:=(0<=s.p/\s.p<=1000000)/\(0<=s.n/\s.n<=99)/\(0<=s.S/\s.S<=9999)
def OkKind(e:zak):Prop:=
 (e.k=0/\1<=e.c.n/\(0<=e.G/\e.G<=23)/\(-1<=e.q/\e.q<=40)/\e.E=0)\/(e.k=1/\e.c.n=0/\e.g=0/\e.G=0/\e.q=0/\(1<=e.E/\e.E<=99)/\e.r.length=0)\/(e.k=2/\e.c.n=0/\e.q=0/\e.E=0/\(-1<=e.G/\e.G<=23)/\e.r.length=0)
def zBr(e:zak):Prop:=
 zuV e.c/\(0<=e.g/\e.g<=319999)/\e.r.length<=12/\(∀n∈e.r,0<=n/\n<=1152921504606846976)/\OkKind e
def lessS(a b:zb8):Bool:=if a.p≠b.p then decide (a.p<b.p)else if a.n≠b.n then decide (a.n<b.n)else decide (a.S<b.S)
def zbP{p:Prop}(h:p):dec p=true:=by unfold dec;simp[h]
def zb1{p:Prop}(h:¬p):dec p=false:=by unfold dec;simp[h]
def zl6{p q:Prop}(h:p↔q):dec p=dec q:=by rw[propext h]
def ziB{p:Prop}:dec p=true↔p:=by unfold dec;simp
def zij{b:Bool}{p:Prop}(h:b=true↔p):b=dec p:=by
 by_cases hp:p
 .rw[zbP hp];exact h.2 hp
 . rw[zb1 hp];cases b with
   |true=>exact absurd (h.1 rfl) hp
   |false=>rfl
def zfZ{β:Type}(b:Bool)(t e:Option β):brn b t e=if b=true then t else e:=by cases b<;>rfl
variable{α β:Type}
def zds(l:List α)(P:Int->List α->Prop)(h0:P l.length [])
  (hs:∀(i:Nat) (hi:i<l.length) (r:List α),l.drop (i+1)=r->P ((i:Int)+1) r->P i (l[i]::r)):P 0 l:=by
 have key:∀(n i:Nat),i+n=l.length->P (i:Int) (l.drop i):=by
  intro n
  induction n with
  |zero=>intro i hi;have:l.drop i=[]:=zc0 (by omega);rw[this,show i=l.length by omega];exact h0
  |succ n ih =>
    intro i hi;have hlt:i<l.length:=by omega
    rw[zbE hlt];have:=ih (i+1) (by omega);rw[zhm]at this;exact hs i hlt _ rfl this
 have:=key l.length 0 (by omega);simpa using this
def zuW(n:Nat)(G:∀j,j<n->Prop)(K:Int->Option β)(S:β->Prop)(z:β)(h0:(∀j hj,G j hj)->K n=some z)
  (hno:∀(i:Nat) (hi:i<n),(∀j (hj:j<i),G j (by omega))->¬G i hi->∃y,S y/\K i=some y) (hyes:∀(i:Nat) (hi:i<n) (y:β),G i hi->K ((i:Int)+1)=some y->K i=some y):((∀j hj,G j hj)/\K 0=some z)\/((∃j hj,¬G j hj)/\∃y,S y/\K 0=some y):=by
 have key:∀(m i:Nat),i+m=n->(∀j (hj:j<i) (hn:j<n),G j hn)->((∀j hj,i<=j->G j hj)/\K (i:Int)=some z)\/((∃j hj,¬G j hj)/\∃y,S y/\K (i:Int)=some y):=by
  intro m
  induction m with
  |zero=>intro i hi hpre;left;refine⟨λj hj h=>by omega,?_⟩;rw[show i=n by omega,h0 (λj hj=>hpre j (by omega) hj)]
  |succ m ih =>
    intro i hi hpre;by_cases hg:G i (by omega)
    . have:=ih (i+1) (by omega) (λj hj hn=>by
       by_cases e:j=i
       .subst e;exact hg
       .exact hpre j (by omega) hn)
      rw[zhm]at this;rcases this with⟨h1,h2⟩|⟨h1,y,h2,h3⟩
      . left;refine⟨λj hj h=>?_,hyes i (by omega) z hg h2⟩;by_cases e:j=i
        .subst e;exact hg
        .exact h1 j hj (by omega)
      .exact .inr ⟨h1,y,h2,hyes i (by omega) y hg h3⟩
    .exact .inr ⟨⟨i,by omega,hg⟩,hno i (by omega) (λj hj=>hpre j hj _) hg⟩
 rcases key n 0 (by omega) (λj hj=>by omega)with⟨h1,h2⟩|h
 .exact .inl ⟨λj hj=>h1 j hj (zcT _),h2⟩
 .exact .inr h
def zyi(n:Nat)(G:∀j,j<n->Prop)(K:Int->Option β)(q:Bool->β)(h0:K n=some (q true))
  (hno:∀(i:Nat) (hi:i<n),¬G i hi->K i=some (q false)) (hyes:∀(i:Nat) (hi:i<n) (y:β),G i hi->K ((i:Int)+1)=some y->K i=some y):K 0=some (q (dec (∀j hj,G j hj))):=by
 rcases zuW n G K (λx=>x=q false) (q true) (λ_=>h0) (λi hi _ h=>⟨_,rfl,hno i hi h⟩) hyes with⟨h1,h2⟩|⟨⟨j,hj,h1⟩,y,rfl,h2⟩
 .rw[h2,zbP h1]
 .rw[h2,zb1 (λh=>h1 (h j hj))]
def any_bool(n:Nat)(G:∀j,j<n->Prop)(K:Int->Option β)(q:Bool->β)(h0:K n=some (q false))
  (hyes:∀(i:Nat) (hi:i<n),G i hi->K i=some (q true)) (hno:∀(i:Nat) (hi:i<n) (y:β),¬G i hi->K ((i:Int)+1)=some y->K i=some y):K 0=some (q (dec (∃j hj,G j hj))):=by
 have h:=zyi n (λi hi=>¬G i hi) K (λb=>q (!b)) (by simpa using h0) (λi hi hg=>by simpa using hyes i hi (Classical.not_not.1 hg)) hno;rw[h];congr 2;by_cases hp:∃j hj,G j hj
 .rw[zbP hp,zb1 (λh=>by obtain⟨j,h1,h2⟩:=hp;exact h j h1 h2)];rfl
 .rw[zb1 hp,zbP (λj h1 h2=>hp ⟨j,h1,h2⟩)];rfl
def all_err(n:Nat)(G:∀j,j<n->Prop)(K:Int->Option β)(q:Int->β)(h0:K n=some (q 0))
  (hno:∀(i:Nat) (hi:i<n),¬G i hi->∃e,e≠0/\K i=some (q e)) (hyes:∀(i:Nat) (hi:i<n) (y:β),G i hi->K ((i:Int)+1)=some y->K i=some y):∃e,K 0=some (q e)/\(e=0↔∀j hj,G j hj):=by
 rcases zuW n G K (λx=>∃e,e≠0/\x=q e) (q 0) (λ_=>h0) (λi hi _ h=>by obtain⟨e,h1,h2⟩:=hno i hi h;exact⟨_,⟨e,h1,rfl⟩,h2⟩) hyes with⟨h1,h2⟩|⟨⟨j,hj,h1⟩,y,⟨e,h2,rfl⟩,h3⟩
 .exact⟨0,h2,by simp;exact h1⟩
 .exact⟨e,h3,λh=>absurd h h2,λh=>absurd (h j hj) h1⟩
def zBs{l:List α}{G:α->Prop}:(∀j (hj:j<l.length),G l[j])↔∀x∈l,G x:=by
 constructor
 .intro h x hx;obtain⟨j,hj,rfl⟩:=zeU.1 hx;exact h j hj
 .exact λh j hj=>h _ (zaq hj)
def zmX{i:Nat}(h:0<i):((i:Int)-1).toNat=i-1:=by omega
def zxH{f:α->Int}{l:List α}:(∀i (hi:i<l.length),∀h:0<i,f (l[i-1]'(by omega))<f l[i])↔AscBy f l:=by
 constructor
 .intro h j hj;exact h (j+1) hj (by omega)
 .intro h i hi h0;have:=h (i-1) (by omega);simp only[show i-1+1=i by omega]at this;exact this
def asc_lt{f:α->Int}{l:List α}(h:AscBy f l):∀(i j:Nat) (hj:j<l.length) (hij:i<j),f (l[i]'(by omega))<f l[j]:=by
 intro i j hj hij;obtain⟨d,rfl⟩:∃d,j=i+1+d:=⟨j-i-1,by omega⟩
 induction d with
 |zero=>exact h i hj
 |succ d ih=>have h1:=ih (by omega) (by omega);have h2:=h (i+1+d) (by omega);have:l[i+1+(d+1)]'hj=l[i+1+d+1]'(by omega):=rfl;rw[this];exact Int.lt_trans h1 h2
def fnd_some{p:α->Bool}:∀{l:List α} {i j:Nat} {x:α},fnd p i l=some (j,x)->i<=j/\l[j-i]?=some x/\p x=true/\∀k y,k<j-i->l[k]?=some y->p y=false
 |[],i,j,x,h=>by simp[fnd]at h
 |a::l,i,j,x,h=>by
   simp only[fnd]at h;split at h
   .rename_i ha;simp only[zG]at h;obtain⟨rfl,rfl⟩:=h;exact⟨zav _,by simp,ha,λk y hk=>by omega⟩
   . rename_i ha;obtain⟨h1,h2,h3,h4⟩:=fnd_some h;have e:j-i=(j-(i+1))+1:=by omega
     refine⟨by omega,by rw[e];simpa using h2,h3,λk y hk hy=>?_⟩
     cases k with
     |zero=>simp at hy;subst hy;simpa using ha
     |succ k=>exact h4 k y (by omega) (by simpa using hy)
def fnd_at{p:α->Bool}{l:List α}{j:Nat}{x:α}(h:fnd p 0 l=some (j,x)):l[j]?=some x/\p x=true/\∀k y,k<j->l[k]?=some y->p y=false:=by have:=(fnd_some h).2;simpa using this
def zyB{p:α->Bool}:∀{l:List α} {i:Nat},fnd p i l=none↔∀x∈l,p x=false
 |[],i=>by simp[fnd]
 |a::l,i=>by
   simp only[fnd];split
   .rename_i ha;simp[ha]
   .rename_i ha;rw[zyB];simp only[zat,forall_eq_or_imp];exact⟨λh=>⟨by simpa using ha,h⟩,λh=>h.2⟩
def fnd_of{p:α->Bool}{l:List α}{j:Nat}{x:α}(hx:l[j]?=some x)(hp:p x=true)(hk:∀k y,k<j->l[k]?=some y->p y=false):fnd p 0 l=some (j,x):=by
 cases h:fnd p 0 l with
 |none=>have:=zyB.1 h x (zau hx);rw[hp]at this;cases this
 |some q =>
   obtain⟨i,y⟩:=q;obtain⟨h1,h2,h3⟩:=fnd_at h;rcases zjo i j with c|c|c
   .have:=hk i y c h1;rw[h2]at this;cases this
   .subst c;rw[hx]at h1;injection h1 with h1;rw[h1]
   .have:=h3 j x c hx;rw[hp]at this;cases this
def zvr(l:List α)(p:α->Bool)(K:Int->Option β)(R:Option (Nat×α)->β)(h0:K l.length=some (R none))
  (hyes:∀(i:Nat) (hi:i<l.length),p l[i]=true->K i=some (R (some (i,l[i])))) (hno:∀(i:Nat) (hi:i<l.length) (y:β),p l[i]=false->K ((i:Int)+1)=some y->K i=some y):K 0=some (R (fnd p 0 l)):=by
 have H:=zuW l.length (λj hj=>p l[j]=false) K (λy=>∃i x,fnd p 0 l=some (i,x)/\y=R (some (i,x))) (R none) (λ_=>h0)
  (λi hi hpre hn=>⟨_,⟨i,l[i],fnd_of (zaa hi) (by simpa using hn) (λk y hk hy=>by
   obtain⟨hk',rfl⟩:=zal.1 hy
   exact hpre k hk),rfl⟩,hyes i hi (by simpa using hn)⟩) hno
 rcases H with⟨h1,h2⟩|⟨_,y,⟨i,x,h2,rfl⟩,h3⟩
 .rw[h2,zyB.2 ((zBs (G:=λx=>p x=false)).1 h1)]
 .rw[h3,h2]
def zgx{γ:Type}(f:α->γ)(l:List α)(i:Nat)(a:α):(List.map f l).set i (f a)=List.map f (l.set i a):=List.map_set.symm
def zbW{γ:Type}(f:α->γ)(l:List α)(a:α):List.map f l++[f a]=List.map f (l++[a]):=by simp
def map_rep{γ:Type}(f:α->γ)(n:Nat)(a:α):List.replicate n (f a)=List.map f (List.replicate n a):=by simp
instance(p:GPart):Decidable (OkPart p):=by unfold OkPart;infer_instance
def zt9(p:GPart):cw 199 [.agg (zbV p)] []=some (zao (dec (OkPart p))):=by
 refine zCa ?_;simp only[zfZ,decide_eq_true_eq,beq_iff_eq]
 repeat' split
 all_goals first
  |(rw[zb1 (by unfold OkPart;omega)];rfl)
  |(rw[show(p.xy==0)=dec (OkPart p)from zij (by simp only[beq_iff_eq];unfold OkPart;omega)];rfl)
  |(rw[show decide (p.xy<p.X)=dec (OkPart p)from zij (by simp only[decide_eq_true_eq];unfold OkPart;omega)];rfl)
def zCQ(p:GPart)(l:List GPart):sumMax (p::l)=p.N+sumMax l:=by simp[sumMax]
def sumMax_bd{l:List GPart}(h:∀p∈l,OkPart p):0<=sumMax l/\sumMax l<=40*l.length:=by
 induction l with
 |nil=>simp[sumMax]
 |cons p l ih=>have h1:=ih (λq hq=>h q (by simp[hq]));have h2:=(h p (by simp)).1;rw[zCQ,zaJ];omega
def zAv(p:zaQ):cw 176 [.agg (zaO p)] []=some (zao (dec (zl0 p))):=by
 refine zAJ ?_;by_cases hh:((0<=p.V/\p.V<=31)/\(0<=p.D/\p.D<4)/\(1<=p.d.length/\p.d.length<=24))
 . simp(disch:=omega)only[zN];have key:=zds p.d (λi r=>∀s:Int,0<=s->s<=40*i->(zl0 p↔(∀x∈r,OkPart x)/\s+sumMax r<=200)->zjG p s i=some (zao (dec (zl0 p)))) ?_ ?_ 0 (by omega) (by omega) ?_
   .exact key
   .intro s h0 h1 hs;refine zrQ ?_;simp(disch:=omega)only[zN];rw[show decide (s<=200)=dec (zl0 p)from zij (by rw[hs];simp[sumMax])];rfl
   . intro i hi r hr ih s h0 h1 hs;refine zrQ ?_;by_cases hp:OkPart p.d[i]
     . have hm:=hp.1;simp(disch:=omega) [zaz,zam,w64_id,zt9,zbP hp];refine ih _ (by omega) (by omega) (hs.trans ?_);rw[zCQ];constructor
       .rintro⟨h2,h3⟩;exact⟨λx hx=>h2 x (by simp[hx]),by omega⟩
       . rintro⟨h2,h3⟩
         refine⟨λx hx=>?_,by omega⟩;rcases zat.1 hx with rfl|hx
         .exact hp
         .exact h2 x hx
     .simp(disch:=omega) [zaz,zam,zt9,zb1 hp];rw[zb1 (λh=>hp ((hs.1 h).1 _ (by simp)))];rfl
   . unfold zl0;constructor
     .intro h;exact⟨h.2.2.2.1,by simpa using h.2.2.2.2⟩
     .intro h;exact⟨hh.1,hh.2.1,hh.2.2,h.1,by simpa using h.2⟩
 . rw[zb1 (λh=>hh ⟨h.1,h.2.1,h.2.2.1⟩)];simp only[zfZ,decide_eq_true_eq,zab]
   repeat' split
   all_goals first
    |rfl
    |omega
def zFd{o:Int}{ks:aQ}:(∀j (hj:j<ks.length),(0<=ks[j]/\ks[j]<o)/\∀h:0<j,(ks[j-1]'(by omega))<ks[j])↔OkKeys o ks:=by unfold OkKeys;rw[<-zxH,<-zBs];exact⟨λh=>⟨λj hj=>(h j hj).1,λj hj=>(h j hj).2⟩,λh j hj=>⟨h.1 j hj,h.2 j hj⟩⟩
def zKm{p:zaQ}{s:zbC}(h1:s.xb.length=p.d.length)(h2:s.x.length=p.d.length)(hp:zl0 p):(∀j (hj:j<p.d.length),OkKeys p.d[j].X (s.xb[j]'(by omega))/\(0<=s.x[j]'(by omega)/\s.x[j]'(by omega)<=2))↔zgr p s:=by
 unfold zgr;constructor
 .intro h;refine⟨hp,h1,h2,λj x ks k a b c=>?_⟩;obtain⟨hj,rfl⟩:=zal.1 a;obtain⟨_,rfl⟩:=zal.1 b;obtain⟨_,rfl⟩:=zal.1 c;exact h j hj
 .intro h j hj;exact h.2.2.2 j _ _ _ (zaa hj) (zaa (by omega)) (zaa (by omega))
def zgc(p:zaQ)(s:zbC)(hs:Short s):cw 132 [.agg (zaO p),.agg (zbU s)] []=some (zao (dec (zgr p s))):=by
 refine zIl ?_;simp only[zAv,zaG,zab];by_cases hp:zl0 p
 . by_cases h1:s.xb.length=p.d.length
   . by_cases h2:s.x.length=p.d.length
     . simp only[zJ,zbP hp,h1,h2,zaS];have hpl:=hp.2.2.1;rw[<-zl6 (zKm h1 h2 hp)]
       have inner:∀(i:Nat) (hi:i<p.d.length) (y:AV×Mem),zk2 p s ((i:Int)+1)=some y->(OkKeys p.d[i].X (s.xb[i]'(by omega))->zfU p s i 0=some y):=by
        intro i hi y hk hg;have hi1:i<s.xb.length:=by omega
        have hlk:=hs _ (zaq hi1);have hg':=zFd.2 hg;refine zds s.xb[i] (λj r=>zfU p s i j=some y) ?_ ?_
        .refine zn4 ?_;simp(disch:=omega) [zaC,zam,w64_id,hk]
        . intro j hj r hr ih;refine zn4 ?_;obtain⟨g1,g2⟩:=hg' j hj;by_cases h0:0<j
          .have g3:=g2 h0;simp(disch:=omega) [zaz,zaC,zam,w64_id,zmX h0,ih]
          .simp(disch:=omega) [zaz,zaC,zam,w64_id,ih]
       have innerNo:∀(i:Nat) (hi:i<p.d.length),¬OkKeys p.d[i].X (s.xb[i]'(by omega))->zfU p s i 0=some (zao false):=by
        intro i hi hg;have hi1:i<s.xb.length:=by omega
        have hlk:=hs _ (zaq hi1);rw[<-zFd]at hg
        have hno:∀j (hj:j<s.xb[i].length),¬((0<=s.xb[i][j]/\s.xb[i][j]<p.d[i].X)/\∀h:0<j,(s.xb[i][j-1]'(by omega))<s.xb[i][j])->zfU p s i j=some (zao false):=by
         intro j hj hn;refine zn4 ?_;by_cases g1:0<=s.xb[i][j]/\s.xb[i][j]<p.d[i].X
         . have h0:0<j:=by
            apply Nat.pos_of_ne_zero
            rintro rfl
            exact hn ⟨g1,λh=>absurd h (by omega)⟩
           have g2:¬(s.xb[i][j-1]<s.xb[i][j]):=λh=>hn ⟨g1,λ_=>h⟩
           simp(disch:=omega) [zaz,zaC,zam,w64_id,zmX h0];rfl
         . by_cases g2:s.xb[i][j]<0
           .simp(disch:=omega) [zaz,zam];rfl
           .simp(disch:=omega) [zaz,zaC,zam];rfl
        rcases zuW s.xb[i].length (λj hj=>(0<=s.xb[i][j]/\s.xb[i][j]<p.d[i].X)/\∀h:0<j,(s.xb[i][j-1]'(by omega))<s.xb[i][j])
         (λj=>zfU p s i j) (λy=>y=zao false) (zao false) (λh=>absurd h hg) (λj hj _ hn=>⟨_,rfl,hno j hj hn⟩) (λj hj y g hk=>by
          refine zn4 ?_;obtain⟨g1,g2⟩:=g;by_cases h0:0<j
          .have g3:=g2 h0;simp(disch:=omega) [zaz,zaC,zam,w64_id,zmX h0,hk]
          .simp(disch:=omega) [zaz,zaC,zam,w64_id,hk])with⟨_,h⟩|⟨_,y,rfl,h⟩
        .exact h
        .exact h
       refine zyi p.d.length _ (λi=>zk2 p s i) (λb=>zao b) ?_ ?_ ?_
       .exact zrR (by simp(disch:=omega)only[zN];rfl)
       . intro i hi hg;have hi2:i<s.x.length:=by omega
         refine zrR ?_;by_cases h4:(0<=s.x[i]/\s.x[i]<=2)
         . have h3:=λh=>hg ⟨h,h4⟩
           simp(disch:=omega) [zaz,zaC,zam,innerNo i hi h3]
         . by_cases h5:s.x[i]<0
           .simp(disch:=omega) [zaz,zam];rfl
           .simp(disch:=omega) [zaz,zaC,zam];rfl
       . intro i hi y hg hk';have hi2:i<s.x.length:=by omega
         have g2:=hg.2;refine zrR ?_;simp(disch:=omega) [zaz,zaC,zam,inner i hi y hk' hg.1]
     .rw[zb1 (p:=zgr p s) (λh=>h2 h.2.2.1)];simp only[zJ,zbP hp,h1,zaS,show((s.x.length:Int) !=p.d.length)=true by simpa using(by omega:¬((s.x.length:Int)=p.d.length)),zaM];rfl
   .rw[zb1 (p:=zgr p s) (λh=>h1 h.2.1)];simp only[zQ,zbP hp,show((s.xb.length:Int) !=p.d.length)=true by simpa using(by omega:¬((s.xb.length:Int)=p.d.length)),zaM];rfl
 .rw[zb1 hp,zb1 (λh=>hp h.1)];rfl
def zht(a b c:Int):cw 136 [I a,I b,I c] []=some (zao (dec (b<=a/\a<=c))):=by
 refine e_ref24_in ?_;simp only[zfZ,decide_eq_true_eq];split
 .rw[show decide (a<=c)=dec (b<=a/\a<=c)from zij (by simp only[decide_eq_true_eq];omega)];rfl
 .rw[zb1 (by omega)];rfl
def zIU{l:ab}(hl:l.length<=60):(∀j (hj:j<l.length),zyg l[j]/\∀h:0<j,(l[j-1]'(by omega)).l<l[j].l)↔zsU l:=by unfold zsU;rw[<-zxH,<-zBs];exact⟨λh=>⟨hl,λj hj=>(h j hj).1,λj hj=>(h j hj).2⟩,λh j hj=>⟨h.2.1 j hj,h.2.2 j hj⟩⟩
def zzn(l:List zbA)(hs:∀m∈l,m.h.length<=1000000)(hok:zv2 l):cw 130 [.sl 5 (mL l)] []=some (za9 0):=by
 obtain⟨hl,hm,ha⟩:=hok;refine zIm ?_;simp(disch:=omega)only[zN];refine zds l (λi r=>zk3 l i=some (za9 0)) ?_ ?_
 .exact zww (by simp(disch:=omega) [zaC]<;>rfl)
 . intro i hi r hr ih;have hp:=hs _ (zaq hi);obtain⟨⟨a1,a2,a3,a4,a5⟩,a6⟩:=hm _ (zaq hi)
   have last:∀j:Nat,l[i].h.length<=j->zjc l i l[i] j=some (za9 0):=by
    intro j hj;refine zwy ?_;by_cases h:0<i
    .have:=zxH.2 ha i hi h;simp(disch:=omega) [zaz,zaC,zam,w64_id,zmX h,ih]
    .simp(disch:=omega) [zaC,w64_id,ih]
   have third:zjc l i l[i] 1=some (za9 0):=by
    by_cases h1:1<=l[i].h.length
    . have H:=zuW (l[i].h.length-1) (λj hj=>l[i].h[j]<l[i].h[j+1]) (λj=>zjc l i l[i] (j+1)) (λ_=>True) (za9 0) (λ_=>by
        have:=last l[i].h.length (zav _)
        rw[show(((l[i].h.length-1:Nat):Int)+1)=(l[i].h.length:Int)by omega];exact this)
       (λj hj _ hn=>absurd (a6 j (by omega)) hn)
       (λj hj z hg hz=>by
        have hg':l[i].h[j]<l[i].h[j+1]:=hg;refine zwy ?_;have e1:((j:Int)+1).toNat=j+1:=by omega
        simp(disch:=omega) [zaz,zaC,zam,w64_id,e1,hz])
      rcases H with⟨_,h⟩|⟨⟨j,hj,hn⟩,_⟩
      .exact h
      .exact absurd (a6 j (by omega)) hn
    .have:=last 1 (by omega);simpa using this
   have second:zk4 l i l[i] 0=some (za9 0):=by
    refine zds l[i].h (λj r=>zk4 l i l[i] j=some (za9 0)) ?_ ?_
    .refine zwx ?_;simp(disch:=omega) [zaC,third]
    .intro j hj r hr ih2;refine zwx ?_;simp(disch:=omega) [zaz,zam,w64_id,zht,zbP (a5 _ (zaq hj)),ih2]
   refine zww ?_;simp(disch:=omega) [zaz,zam,zht,zbP a1,zbP a2,zbP a3,zbP a4,second]
def zmz(l:ab):∃e,cw 89 [.sl 7 (mC l)] []=some (za9 e)/\(e=0↔zsU l):=by
 by_cases hl:l.length<=60
 . have H:=all_err l.length (λj hj=>zyg l[j]/\∀h:0<j,(l[j-1]'(by omega)).l<l[j].l) (λi=>zgV l i) (λe=>za9 e) ?_ ?_ ?_
   .obtain⟨e,h1,h2⟩:=H;exact⟨e,zq6 (by simp(disch:=omega) [zaC,h1]),h2.trans (zIU hl)⟩
   .exact zd4 (by simp(disch:=omega) [zaC]<;>rfl)
   . intro i hi hg;by_cases a1:(0<=l[i].v/\l[i].v<=31)
     case neg=>refine⟨2,by omega,zd4 ?_⟩;simp(disch:=omega) [zaz,zam,zht,zb1 a1];rfl
     by_cases a2:(0<=l[i].b/\l[i].b<=9999)
     case neg=>refine⟨2,by omega,zd4 ?_⟩;simp(disch:=omega) [zaz,zam,zht,zbP a1,zb1 a2];rfl
     by_cases a3:(0<=l[i].w/\l[i].w<=99)
     case neg=>refine⟨2,by omega,zd4 ?_⟩;simp(disch:=omega) [zaz,zam,zht,zbP a1,zbP a2,zb1 a3];rfl
     by_cases a4:(0<=l[i].D/\l[i].D<=31)
     case neg=>refine⟨2,by omega,zd4 ?_⟩;simp(disch:=omega) [zaz,zam,zht,zbP a1,zbP a2,zbP a3,zb1 a4];rfl
     by_cases a5:l[i].l=l[i].v*10000+l[i].b
     case neg=>refine⟨1,by omega,zd4 ?_⟩;simp(disch:=omega) [zaz,zam,zht,zbP a1,zbP a2,zbP a3,zbP a4,w64_id,show(l[i].l !=l[i].v*10000+l[i].b)=true by simpa using a5];rfl
     by_cases a6:l[i].r.length<=12
     case neg=>refine⟨1,by omega,zd4 ?_⟩;simp(disch:=omega) [zaz,zam,zht,zbP a1,zbP a2,zbP a3,zbP a4,w64_id,<-a5];rfl
     have h1:zyg l[i]:=⟨a1,a2,a3,a4,a5,a6⟩
     have h0:0<i:=by
      apply Nat.pos_of_ne_zero
      rintro rfl
      exact hg ⟨h1,λh=>absurd h (by omega)⟩
     have h3:¬(l[i-1].l<l[i].l):=λh=>hg ⟨h1,λ_=>h⟩
     refine⟨43,by omega,zd4 ?_⟩;simp(disch:=omega) [zaz,zaC,zam,w64_id,zmX h0,zht,zbP a1,zbP a2,zbP a3,zbP a4,<-a5];rfl
   . intro i hi y hg hk;obtain⟨h1,h3⟩:=hg;refine zd4 ?_;obtain⟨a1,a2,a3,a4,a5,a6⟩:=h1;by_cases h0:0<i
     .have h4:=h3 h0;simp(disch:=omega) [zaz,zaC,zam,w64_id,zmX h0,zht,zbP a1,zbP a2,zbP a3,zbP a4,<-a5,hk]
     .simp(disch:=omega) [zaz,zaC,zam,w64_id,zht,zbP a1,zbP a2,zbP a3,zbP a4,<-a5,hk]
 .refine⟨3,zq6 ?_,by omega,λh=>absurd h.1 hl⟩;simp(disch:=omega) [zaz];rfl
def zpR(r:zbT)(h:OkMon r):cw 131 [.agg (zdg r)] []=some (za9 0):=by obtain⟨h1,h2,h3,h4⟩:=h;refine zIo ?_;simp(disch:=omega) [zaC];rfl
def c_Has(l:aQ)(n:Int)(hl:l.length<=1000000):cw 178 [.sl 1 (List.map zaj l),I n] []=some (zao (dec (n∈l))):=by
 refine zLd ?_;have key:=any_bool l.length (λj hj=>l[j]=n) (λi=>zp6 l n i) (λb=>zao b) ?_ ?_ ?_
 .rw[key];congr 2;refine zl6 ⟨λ⟨j,hj,h⟩=>h▸zaq hj,λh=>?_⟩;obtain⟨j,hj,rfl⟩:=zeU.1 h;exact⟨j,hj,rfl⟩
 .exact zt1 (by simp(disch:=omega) [zaC]<;>rfl)
 .intro i hi h;refine zt1 ?_;simp(disch:=omega) [zaz,zam,h];rfl
 .intro i hi y h hk;refine zt1 ?_;simp(disch:=omega) [zaz,zam,w64_id,show(l[i]==n)=false by simpa using h,hk]
def accB(x:GPart)(ks:aQ)(v:Int):Bool:=if ks=[]then v==x.xy else dec (v∈ks)
def zeF(p:zaQ)(s:zbC)(a:aQ)(j:Nat):Int:=
 match p.d[j]?,s.xb[j]?,a[j]? with
 |some x,some ks,some v=>if x.k=1 then -2 else if accB x ks v=true then x.N else if v=-1 then -1 else 0
 |_,_,_=>0
def zoX(p:zaQ)(s:zbC)(a:aQ):List Int:=(List.range p.d.length).map (zeF p s a)
def kind2{x:GPart}(h:OkPart x):x.k=1\/x.k=2:=by unfold OkPart at h;omega
def zEz(p:zaQ)(s:zbC)(hs:Short s)(hp:zgr p s)(j:Nat)(hj:j<p.d.length)(hj1:j<s.xb.length)(h2:p.d[j].k=2)(v:Int):cw 137 [.agg (zaO p),.agg (zbU s),I j,I v] []=some (zao (accB p.d[j] s.xb[j] v)):=by
 refine zEO ?_;have hkl:=hs _ (zaq hj1);unfold accB;by_cases h:s.xb[j]=[]
 .simp(disch:=omega) [zgc p s hs,zbP hp,zaC,zam,h2,h];rfl
 . have hne:(((s.xb[j]).length:Int)==0)=false:=by simpa using h
   simp(disch:=omega) [zgc p s hs,zbP hp,zaC,zam,h2,h,c_Has _ _ hkl];rw[hne,zaB];rfl
def zoW(p:zaQ)(s:zbC)(a:aQ)(hs:Short s):∃r:List Int×Int,cw 90 [.agg (zaO p),.agg (zbU s),.sl 1 (List.map zaj a)] []=some (zeB r)/\(r.2=0↔zgr p s/\OkAns p a)/\(r.2=0->r.1=zoX p s a):=by
 by_cases hp:zgr p s
 case neg=>refine⟨([],1),zsn ?_,by simp[hp],by simp⟩;simp only[zgc p s hs,zaG,zb1 hp];rfl
 obtain⟨hP,hk,hw,hall⟩:=id hp;have hpl:=hP.2.2.1;by_cases ha:a.length=p.d.length
 case neg=>refine⟨([],22),zsn ?_,by simp[OkAns,ha],by simp⟩;simp only[zQ,zgc p s hs,zaG,zbP hp,zab,show((a.length:Int) !=p.d.length)=true by simpa using(by omega:¬((a.length:Int)=p.d.length)),zaM];rfl
 have start:∀y,zg2 p s a (List.map zaj []) 0=some y->cw 90 [.agg (zaO p),.agg (zbU s),.sl 1 (List.map zaj a)] []=some y:=by intro y hy;refine zsn ?_;simp only[zJ,zgc p s hs,zaG,zbP hp,zaS,zab,ha];exact hy
 have H:=zuW p.d.length (λj hj=>p.d[j].k≠1->-2<=a[j]'(by omega)/\a[j]'(by omega)<p.d[j].X) (λi=>zg2 p s a (List.map zaj ((List.range i.toNat).map (zeF p s a))) i) (λy=>y=zeB ([],2)) (zeB (zoX p s a,0)) ?_ ?_ ?_
 . rcases H with⟨h1,h2⟩|⟨⟨j,hj,h1⟩,y,rfl,h3⟩
   .refine⟨_,start _ h2,⟨λ_=>⟨hp,ha,λj x v q1 q2 q3=>?_⟩,λ_=>rfl⟩,λ_=>rfl⟩;obtain⟨hj,rfl⟩:=zal.1 q1;obtain⟨_,rfl⟩:=zal.1 q2;exact h1 j hj q3
   .refine⟨_,start _ h3,⟨λh=>by simp at h,λh=>?_⟩,λh=>by simp at h⟩;exact absurd (λq3=>h.2.2 j _ _ (zaa hj) (zaa (by omega)) q3) h1
 .intro _;refine zqC ?_;simp(disch:=omega)only[zN,zam,zae,zdT];rw[show List.take p.d.length (List.map zaj (List.map (zeF p s a) (List.range p.d.length)))=List.map zaj (zoX p s a)from zar (by simp)];rfl
 . intro i hi _ hn;have hi2:i<a.length:=by omega
   refine⟨_,rfl,zqC ?_⟩;rcases kind2 (hP.2.2.2.1 _ (zaq hi))with h1|h1
   .exact absurd (λh=>absurd h1 h) hn
   . have h2:¬(-2<=a[i]/\a[i]<p.d[i].X):=λh=>hn (λ_=>h)
     by_cases h5:a[i] < -2
     .simp(disch:=omega) [zaz,zam,h1];rfl
     .simp(disch:=omega) [zaz,zaC,zam,h1];rfl
 . intro i hi y hg hk';have hi1:i<s.xb.length:=by omega
   have hi2:i<a.length:=by omega
   have e1:((i:Int)+1).toNat=i+1:=by omega
   have hc:zeF p s a i=if p.d[i].k=1 then -2 else if accB p.d[i] s.xb[i] a[i]=true then p.d[i].N else if a[i]=-1 then -1 else 0:=by simp[zeF,hi,hi1,hi2]
   simp only[e1,List.range_succ,zct,zbx,zeN]at hk';have hx:=hP.2.2.2.1 _ (zaq hi);refine zqC ?_;rcases kind2 hx with h1|h1
   .rw[hc,if_pos h1]at hk';simp(disch:=omega)only[zM,zE,zdT,zbg,zfj,zaa hi,h1,beq_self_eq_true,zaM];exact hk'
   . rw[hc,iNQ]at hk';have h2:=hg (by omega);have hacc:=zEz p s hs hp i hi hi1 h1 a[i];have hk2:(p.d[i].k==1)=false:=by rw[h1];rfl
     have fin:∀v:Int,v=(if accB p.d[i] s.xb[i] a[i]=true then p.d[i].N else if a[i]=-1 then -1 else 0)->zja p s a (List.map zaj ((List.range i).map (zeF p s a))) i v=some y:=by intro v hv;refine zx2 ?_;simp(disch:=omega)only[zM,zL,zI,zdT];rw[hv];exact hk'
     have noacc:a[i]=-1->accB p.d[i] s.xb[i] a[i]=false:=by
      intro h;unfold accB;have hks:=(hall i _ _ (s.x[i]'(by omega)) (zaa hi) (zaa hi1) (zaa (by omega))).1;split
      . have:0<=p.d[i].xy:=by unfold OkPart at hx;omega
        simp only[beq_eq_false_iff_ne];omega
      .exact zb1 (λhm=>by have:=hks.1 _ hm;omega)
     have e16:∀v:Int,zkn p s a (List.map zaj ((List.range i).map (zeF p s a))) i=some y\/a[i]≠-1:=by
      intro _;by_cases h3:a[i]=-1
      .left;refine zzV ?_;simp(disch:=omega)only[zM,zL,zI,zdT];rw[if_neg (by rw[noacc h3];simp),if_pos h3]at hk';exact hk'
      .exact .inr h3
     simp(disch:=omega)only[zN,zF,zaz,zfj,zcc,zaa hi,zaa hi2,hk2,zaB,hacc,zaG]
     cases hb:accB p.d[i] s.xb[i] a[i]with
     |true =>
       have h3:a[i]≠-1:=λh=>by rw[noacc h]at hb;cases hb
       rw[zaM];refine zzU ?_;simp(disch:=omega)only[zF,zcc,zaa hi2,show(a[i]==-1)=false by simpa using h3,zaB];exact fin _ (by rw[if_pos hb])
     |false =>
       rw[zaB];refine zx1 ?_;by_cases h3:a[i]=-1
       .simp(disch:=omega)only[zF,zcc,zaa hi2,show(a[i]==-1)=true by simpa using h3,zaM];exact(e16 0).resolve_right (λh=>h h3)
       .simp(disch:=omega)only[zF,zcc,zaa hi2,show(a[i]==-1)=false by simpa using h3,zaB];exact fin _ (by rw[if_neg (by rw[hb];simp),if_neg h3])
def zK0:zaK:=⟨0,0,0,0,0,[],[]⟩
def ixR:Option (Nat×zaQ)->Int×Bool
 |some (i,_)=>((i:Int),true)
 |none=>(0,false)
def scR:Option zaK->zaK×Bool
 |some x=>(x,true)
 |none=>(zK0,false)
def zl5(l:ab)(n:Int)(hl:l.length<=1000000):cw 106 [.sl 7 (mC l),I n] []=some (zo7 (scR (zgA l n))):=by
 refine zFZ ?_;have key:=zvr l (λx=>x.l==n) (λi=>zmH l n i) (λo=>zo7 (scR (o.map (·.2)))) ?_ ?_ ?_
 .exact key
 .exact zqD (by simp(disch:=omega) [zaC]<;>rfl)
 .intro i hi h;refine zqD ?_;simp(disch:=omega) [zaz,zam,h];rfl
 .intro i hi y h hk;refine zqD ?_;simp(disch:=omega) [zaz,zam,w64_id,h,hk]
def zkA(ps:List zaQ)(x:zaK)(hl:ps.length<=1000000):cw 88 [.sl 3 (mH ps),.agg (zaA x)] []=some (zez (ixR (zfu ps x))):=by
 refine zIn ?_;have key:=zvr ps (λp=>p.V==x.v&&p.D==x.D) (λi=>zk5 ps x i) (λo=>zez (ixR o)) ?_ ?_ ?_
 .exact key
 .exact zrS (by simp(disch:=omega) [zaC]<;>rfl)
 .intro i hi h;refine zrS ?_;rw[zaU]at h;simp(disch:=omega) [zaz,zam,h.1,h.2];rfl
 . intro i hi y h hk;refine zrS ?_
   cases h1:(ps[i].V==x.v)with
   |false=>simp(disch:=omega) [zaz,zam,w64_id,h1,hk]
   |true=>rw[h1,zdK]at h;simp(disch:=omega) [zaz,zam,w64_id,h1,h,hk]
def zhu(s:zaZ)(n:Int)(h1:s.j.length<=1000000)(h2:s.h.length<=1000000):cw 133 [.agg (za4 s),I n] []=some (zez (ixR (zhh s n))):=by
 refine zEP ?_;rw[zl5 _ n h1,ziM];unfold zhh
 cases zgA s.j n with
 |none=>rfl
 |some x=>simp only[zQ,scR,zkA _ x h2,zdf,zad];rfl
def zAw(p:zaQ)(m:aQ)(hl:p.d.length<=1000000)(h:zoR p m):cw 107 [.agg (zaO p),.sl 1 (List.map zaj m)] []=some (zao true):=by
 obtain⟨h1,h2⟩:=h;refine zAL ?_;simp only[zJ,zab,h1];refine zds m (λi r=>zmc p m i=some (zao true)) ?_ ?_
 .exact zpc (by simp(disch:=omega) [zaC]<;>rfl)
 . intro i hi r hr ih;have hi2:i<p.d.length:=by omega
   have:=h2 i _ _ (zaa hi2) (zaa hi);refine zpc ?_;simp(disch:=omega) [zaz,zaC,zam,w64_id,ih]
def zfV{ps:List zaQ}{x:zaK}{k:Nat}{p:zaQ}(hk:zfu ps x=some (k,p)):ps[k]?=some p/\p.V=x.v/\p.D=x.D:=by obtain⟨h1,h2,_⟩:=fnd_at hk;simp only[zaU,beq_iff_eq]at h2;exact⟨h1,h2⟩
def zpK{l:ab}{n:Int}{x:zaK}(h:zgA l n=some x):x∈l/\x.l=n:=by
 unfold zgA at h
 cases hf:fnd (λx=>x.l==n) 0 l with
 |none=>simp[hf]at h
 |some q=>obtain⟨i,y⟩:=q;rw[hf]at h;simp only[zcM,zaf]at h;subst h;obtain⟨h1,h2,_⟩:=fnd_at hf;exact⟨zau h1,by simpa using h2⟩
def zKv{l:ab}(h:AscBy zaK.l l){x:zaK}(hx:x∈l):zgA l x.l=some x:=by
 obtain⟨i,hi,rfl⟩:=zeU.1 hx;unfold zgA
 rw[fnd_of (j:=i) (x:=l[i]) (zaa hi) (by simp) (λk y hk hy=>by
  obtain⟨hk',rfl⟩:=zal.1 hy;have:=asc_lt h k i hi hk;simp only[beq_eq_false_iff_ne]
  omega)]
 rfl
def zry{s:zaZ}{n:Int}{k:Nat}{p:zaQ}(hk:zhh s n=some (k,p)):s.h[k]?=some p:=by
 unfold zhh at hk
 cases hx:zgA s.j n with
 |none=>simp[hx]at hk
 |some x=>rw[hx]at hk;exact(zfV hk).1
section
variable{s:zaZ}(h:zc7 s)
include h
def zc7.okPaper{k:Nat}{p:zaQ}(hk:s.h[k]?=some p):zl0 p:=by have hlt:=(zal.1 hk).1;have:=h.len;exact(h.schemes k p _ hk (zaa (by omega))).1
def ztC:cw 80 [.agg (za4 s)] []=some (za9 0):=by
 obtain⟨e2,h3,h4⟩:=zmz s.j;have g2:=h4.2 h.scripts;subst g2;have hp:=h.papers;have hl:=h.len;have hsd:=h.seeds;have hsl:=h.scripts.1
 have third:zgE s 0=some (za9 0):=by
  refine zds s.B (λi r=>zgE s i=some (za9 0)) ?_ ?_
  .exact zn7 (by simp(disch:=omega) [zaC]<;>rfl)
  . intro i hi r hr ih;obtain⟨k,p,q1,q2⟩:=h.seed _ (zaq hi);have hpk:=zry q1;have hpl:=(h.okPaper hpk).2.2.1;refine zn7 ?_;by_cases h0:0<i
    .have:=zxH.2 h.asc i hi h0;simp(disch:=omega) [zaz,zaC,zam,w64_id,zmX h0,zhu s _ (by omega) (by omega),q1,ixR,hpk,zAw _ _ (by omega) q2,ih]
    .simp(disch:=omega) [zaz,zaC,zam,w64_id,zhu s _ (by omega) (by omega),q1,ixR,hpk,zAw _ _ (by omega) q2,ih]
 have second:zje s 0=some (za9 0):=by
  refine zds s.j (λi r=>zje s i=some (za9 0)) ?_ ?_
  .exact zn6 (by simp(disch:=omega) [zaC,third])
  .intro i hi r hr ih;obtain⟨k,p,c,q1,q2,q3⟩:=h.script _ (zaq hi);have hpk:=(zfV q1).1;obtain⟨w,hw,hw1,hw2⟩:=zoW p c s.j[i].I (h.short _ (zau q2));have hw0:w.2=0:=hw1.2 ⟨h.schemes k p c hpk q2,q3⟩;refine zn6 ?_;simp(disch:=omega) [zaz,zam,w64_id,zkA _ _ (show s.h.length<=1000000 by omega),q1,ixR,hpk,q2,hw,hw0,ih]
 have first:zjd s 0=some (za9 0):=by
  refine zds s.h (λi r=>zjd s i=some (za9 0)) ?_ ?_
  .exact zn5 (by simp(disch:=omega) [zaC,second])
  . intro i hi r hr ih;have hi2:i<s.H.length:=by omega
    have hv:=h.schemes i _ _ (zaa hi) (zaa hi2);refine zn5 ?_;simp(disch:=omega) [zaz,zam,w64_id,zgc _ _ (h.short _ (zaq hi2)),zbP hv,ih]
 refine zzp ?_;simp(disch:=omega) [zzn _ h.short2 h.markers,h3,zpR _ h.monitor,hl,zaC,first]
end
def DOk(d:zag):Prop:=0<=d.At/\d.L.length<=600
abbrev mD(d:zag):Mem:=[(1000,pS d)]
def tmod_lt{a n:Int}(hn:0<n):-n<a.tmod n/\a.tmod n<n:=by have h1:=zd5 a hn;refine⟨?_,h1⟩;have h2:=zd5 (-a) hn;rw[Int.neg_tmod]at h2;omega
def c_Light(t:aQ):cw 4 [.sl 1 (List.map zaj t)] []=some (zao (decide ((t.length:Int)<=600))):=
 zJV (by rw[zab];rfl)
def c_Roll(t:aQ):cw 6 [.sl 1 (List.map zaj t)] []=some (zxk ⟨t,0⟩):=zK6 rfl
def zcO(d:zag)(n:Int)(hd:DOk d)(hn:n<=4611686018427387904):∃(r:Int) (d':zag),cw 20 [.loc 1000 2 0 0,I n] (mD d)=some (zmM (r,d'))/\0<=r/\(r<n\/r=0)/\DOk d':=by
 by_cases h1:(d.L.length:Int)<=d.At
 .refine⟨0,d,zmD ?_,by omega,.inr rfl,hd⟩;simp(disch:=omega)only[zab,zaz];rfl
 by_cases h2:n<1
 .refine⟨0,d,zmD ?_,by omega,.inr rfl,hd⟩;simp(disch:=omega)only[zN,zaz];rfl
 obtain⟨ha,hl⟩:=hd;have hlt:d.At.toNat<d.L.length:=by omega
 have hb:=tmod_lt (a:=d.L[d.At.toNat]) (n:=n) (by omega);have hd':DOk ⟨d.L,d.At+1⟩:=⟨by show 0<=d.At+1;omega,hl⟩
 by_cases h3:(d.L[d.At.toNat]).tmod n<0
 .refine⟨(d.L[d.At.toNat]).tmod n+n,⟨d.L,d.At+1⟩,zmD ?_,by omega,.inl (by omega),hd'⟩;simp(disch:=omega) [zaz,zaC,zam,hlt,w64_id];rfl
 .refine⟨(d.L[d.At.toNat]).tmod n,⟨d.L,d.At+1⟩,zmD ?_,by omega,.inl (by omega),hd'⟩;simp(disch:=omega) [zaz,zaC,zam,hlt,w64_id];rfl
def zof(d:zag)(n:Int)(hd:DOk d)(hn:n<=4611686018427387904):∃(r:Bool) (d':zag),cw 21 [.loc 1000 2 0 0,I n] (mD d)=some (zqz (r,d'))/\DOk d':=by obtain⟨r,d',h,_,_,hd'⟩:=zcO d n hd hn;exact⟨_,d',zDz (by simp only[h,zaY];rfl),hd'⟩
def zq3(d:zag)(l:aQ)(hd:DOk d)(hl:l≠[])(hl2:l.length<=1000):∃(r:Int) (d':zag),cw 50 [.loc 1000 2 0 0,.sl 1 (List.map zaj l)] (mD d)=some (zmM (r,d'))/\r∈l/\DOk d':=by
 obtain⟨r,d',h,h0,h1,hd'⟩:=zcO d l.length hd (by omega);have hpos:0<l.length:=zee.2 hl;have hlt:r.toNat<l.length:=by omega
 refine⟨l[r.toNat],d',zDB ?_,zaq hlt,hd'⟩;simp(disch:=omega)only[zab,h,zaY,zam,zcc,zaa hlt,zad];rfl
def c_Rule(d:zag)(hd:DOk d):∃(r:zbQ) (d':zag),cw 18 [.loc 1000 2 0 0] (mD d)=some (zqB (r,d'))/\0<=r.L/\r.L<3/\DOk d':=by obtain⟨b,d1,h1,hd1⟩:=zof d 2 hd (by omega);obtain⟨n,d2,h2,h0,h3,hd2⟩:=zcO d1 3 hd1 (by omega);refine⟨⟨b,n⟩,d2,zDC ?_,h0,by show n<3;omega,hd2⟩;simp only[h1,h2,zcD,zaY];rfl
def DPaper(p:zaQ):Prop:=p.d.length<=3/\1<=p.d.length/\∀x∈p.d,OkPart x/\x.N<=6
def DPaper.ok{p:zaQ}(h:DPaper p)(h1:0<=p.V/\p.V<=31)(h2:0<=p.D/\p.D<4):zl0 p:=by obtain⟨a,b,c⟩:=h;refine⟨h1,h2,by omega,λx hx=>(c x hx).1,?_⟩;have:=(sumMax_bd (λx hx=>(c x hx).1)).2;omega
def zBu(d:zag)(a b:Int)(hd:DOk d):∃(p:zaQ) (d':zag),cw 48 [.loc 1000 2 0 0,I a,I b] (mD d)=some (zpt (p,d'))/\p.V=a/\p.D=b/\DPaper p/\DOk d':=by
 obtain⟨n0,d0,e0,a0,b0,hd0⟩:=zcO d 4 hd (by omega);obtain⟨n1,d1,e1,a1,b1,hd1⟩:=zcO d0 3 hd0 (by omega);by_cases h1:0<n1
 . obtain⟨n2,d2,e2,a2,b2,hd2⟩:=zcO d1 2 hd1 (by omega);obtain⟨n3,d3,e3,a3,b3,hd3⟩:=zcO d2 4 hd2 (by omega);obtain⟨n4,d4,e4,a4,b4,hd4⟩:=zcO d3 2 hd3 (by omega)
   have start:∀y,zlz a b (n0,d0) (n2,d2) (n3,d3)=some y->cw 48 [.loc 1000 2 0 0,I a,I b] (mD d)=some y:=by intro y hy;refine zud ?_;simp(disch:=omega)only[e0,e1,e2,e3,zaY,zaz,zam,zbg,hy]
   by_cases h4:0<n4
   . obtain⟨n5,d5,e5,a5,b5,hd5⟩:=zcO d4 4 hd4 (by omega);refine⟨⟨a,b,[⟨1,3+n0,0,0,0,0⟩,⟨2,1+n2,0,0,4,n3⟩,⟨1,2+n5,0,0,0,0⟩]⟩,d5,start _ (zpM ?_),rfl,rfl,⟨by simp,by simp,?_⟩,hd5⟩
     .simp(disch:=omega)only[zL,e4,e5,zaY,zaz,zbg];rfl
     .intro x hx;simp only[zX]at hx;rcases hx with rfl|rfl|rfl<;>exact⟨by unfold OkPart;dsimp only;omega,by dsimp only;omega⟩
   . refine⟨⟨a,b,[⟨1,3+n0,0,0,0,0⟩,⟨2,1+n2,0,0,4,n3⟩]⟩,d4,start _ (zpM ?_),rfl,rfl,⟨by simp,by simp,?_⟩,hd4⟩
     .simp(disch:=omega)only[zL,e4,zaY,zaC,zbg];rfl
     .intro x hx;simp only[zX]at hx;rcases hx with rfl|rfl<;>exact⟨by unfold OkPart;dsimp only;omega,by dsimp only;omega⟩
 . obtain⟨n4,d4,e4,a4,b4,hd4⟩:=zcO d1 2 hd1 (by omega)
   have start:∀y,zj6 a b (n0,d0) (n1,d1)=some y->cw 48 [.loc 1000 2 0 0,I a,I b] (mD d)=some y:=by intro y hy;refine zud ?_;simp(disch:=omega)only[e0,e1,zaY,zaC,hy]
   by_cases h4:0<n4
   . obtain⟨n5,d5,e5,a5,b5,hd5⟩:=zcO d4 4 hd4 (by omega);refine⟨⟨a,b,[⟨1,3+n0,0,0,0,0⟩,⟨1,2+n5,0,0,0,0⟩]⟩,d5,start _ (zoO ?_),rfl,rfl,⟨by simp,by simp,?_⟩,hd5⟩
     .simp(disch:=omega)only[zL,e4,e5,zaY,zaz,zbg];rfl
     .intro x hx;simp only[zX]at hx;rcases hx with rfl|rfl<;>exact⟨by unfold OkPart;dsimp only;omega,by dsimp only;omega⟩
   . refine⟨⟨a,b,[⟨1,3+n0,0,0,0,0⟩]⟩,d4,start _ (zoO ?_),rfl,rfl,⟨by simp,by simp,?_⟩,hd4⟩
     .simp(disch:=omega)only[zL,e4,zaY,zaC,zbg];rfl
     .intro x hx;simp only[zX]at hx;subst hx;exact⟨by unfold OkPart;dsimp only;omega,by dsimp only;omega⟩
def c_Scheme(d:zag)(p:zaQ)(hd:DOk d)(hp:DPaper p)(hok:zl0 p):∃(c:zbC) (d':zag),cw 49 [.loc 1000 2 0 0,.agg (zaO p)] (mD d)=some (zoE (c,d'))/\zgr p c/\Short c/\DOk d':=by
 have hl:=hp.1;have hl2:=hp.2.1;obtain⟨b,d0,e0,hd0⟩:=zof d 6 hd (by omega)
 have good:∀W:List Int,W.length=p.d.length->(∀k∈W,0<=k/\k<=2)->zgr p ⟨List.replicate p.d.length [],W⟩/\Short ⟨List.replicate p.d.length [],W⟩:=by
  intro W hW hk;refine⟨⟨hok,by simp,hW,λj x ks k q1 q2 q3=>⟨?_,hk k (zau q3)⟩⟩,?_⟩
  .have:=zau q2;rw[zgB]at this;rw[this.2];exact⟨by simp,λj hj=>by simp at hj⟩
  .intro ks hks;rw[zgB]at hks;rw[hks.2];simp
 cases b with
 |true =>
   obtain⟨n1,d1,e1,a1,b1,hd1⟩:=zcO d0 p.d.length hd0 (by omega);obtain⟨n2,d2,e2,a2,b2,hd2⟩:=zcO d1 2 hd1 (by omega);have hlt:n1.toNat<p.d.length:=by omega
   obtain⟨g1,g2⟩:=good ((List.replicate p.d.length 0).set n1.toNat (1+n2)) (by simp) (by
    intro k hk;rcases zdE hk with h|h
    .rw[zgB]at h;omega
    .omega)
   refine⟨_,d2,zs6 ?_,g1,g2,hd2⟩;have hlt':n1.toNat<(List.replicate p.d.length (0:Int)).length:=by simpa using hlt
   simp(disch:=omega)only[zW,zF,e0,e1,e2,zcD,zaY,zaM,zb9,map_rep zaj,zcc,zaa hlt'];refine zv0 ?_;simp(disch:=omega)only[zW,zL,zae,zb9,zbN,zav];rw[show List.take p.d.length (List.replicate p.d.length [AV.sl 1 []])=List.replicate p.d.length [AV.sl 1 []]from zar (by simp),zar (Nat.le_of_eq (by simp only[zbN,zb9]))];rw[show List.replicate p.d.length [AV.sl 1 []]=mZ (List.replicate p.d.length [])by simp[zea],show List.replicate p.d.length [I 0]=List.map zaj (List.replicate p.d.length 0)by simp[zaj],show[I (1+n2)]=zaj (1+n2)from rfl,zgx];rfl
 |false =>
   obtain⟨g1,g2⟩:=good (List.replicate p.d.length 0) (by simp) (by
    intro k hk
    rw[zgB]at hk;omega)
   refine⟨_,d0,zs6 ?_,g1,g2,hd0⟩;simp(disch:=omega)only[zI,zam,e0,zcD,zaB,zae];refine zuT ?_;simp(disch:=omega)only[zW,zam,zae,zb9,zav];rw[show List.take p.d.length (List.replicate p.d.length [AV.sl 1 []])=List.replicate p.d.length [AV.sl 1 []]from zar (by simp),zar (Nat.le_of_eq (by simp only[zbN,zb9]))];rw[show List.replicate p.d.length [AV.sl 1 []]=mZ (List.replicate p.d.length [])by simp[zea],show List.replicate p.d.length [I 0]=List.map zaj (List.replicate p.d.length 0)by simp[zaj]];rfl
def zlZ(ps:List zaQ):Prop:=1<=ps.length/\ps.length<=3/\(∀p∈ps,DPaper p/\(0<=p.V/\p.V<=1)/\(0<=p.D/\p.D<=1))/\∀p∈ps,∀q∈ps,p.V=q.V->p.D=q.D->p=q
def zs1(ps:List zaQ)(cs:List zbC):Prop:=∀(j:Nat) (p:zaQ) (c:zbC),ps[j]?=some p->cs[j]?=some c->zgr p c/\Short c
def c_Papers(d:zag)(hd:DOk d):∃(ps:List zaQ) (cs:List zbC) (d':zag),cw 15 [.loc 1000 2 0 0] (mD d)=some (ziX ((ps,cs),d'))/\zlZ ps/\cs.length=ps.length/\zs1 ps cs/\DOk d':=by
 have loop:∀(ps:List zaQ),zlZ ps->∀(d:zag),DOk d->∃(cs:List zbC) (d':zag),zeZ (mH ps) (mT []) d 0=some (ziX ((ps,cs),d'))/\cs.length=ps.length/\zs1 ps cs/\DOk d':=by
  intro ps hps d hd;have hpl:=hps.2.1;refine zds ps (λi r=>∀(cs:List zbC) (d:zag),(cs.length:Int)=i->zs1 ps cs->DOk d->∃(cs':List zbC) (d':zag),zeZ (mH ps) (mT cs) d i=some (ziX ((ps,cs'),d'))/\cs'.length=ps.length/\zs1 ps cs'/\DOk d') ?_ ?_ [] d (by simp) (by intro j p c _ h;simp at h) hd
  .intro cs d hcs hok hd;refine⟨cs,d,zrP ?_,by omega,hok,hd⟩;simp(disch:=omega)only[zW,zaC,zav];rw[zar (by simp),zar (by simp)];rfl
  . intro i hi r hr ih cs d hcs hok hd;obtain⟨g1,g2,g3⟩:=hps.2.2.1 _ (zaq hi);obtain⟨c,d1,e1,o1,o2,hd1⟩:=c_Scheme d ps[i] hd g1 (g1.ok (by omega) (by omega))
    obtain⟨cs',d',e2,o3,o4,hd'⟩:=ih (cs++[c]) d1 (by simp;omega) (by
     intro j p c' hp hc;by_cases hj:j<cs.length
     .rw[zeJ hj]at hc;exact hok j p c' hp hc
     . have hjl:=(zal.1 hc).1;simp at hjl;have hji:j=cs.length:=by omega
       subst hji;simp at hc;subst hc;have:i=cs.length:=by omega
       subst this;rw[zaa hi]at hp;injection hp with hp;subst hp
       exact⟨o1,o2⟩) hd1
    refine⟨cs',d',zrP ?_,o3,o4,hd'⟩;simp(disch:=omega)only[zE,zbg,zaI,zdF,zaa hi,e1,zw7,zbW,e2]
 obtain⟨p0,d0,e0,a0,b0,g0,hd0⟩:=zBu d 0 0 hd;obtain⟨b,d1,e1,hd1⟩:=zof d0 2 hd0 (by omega)
 cases b with
 |true =>
   obtain⟨p2,d2,e2,a2,b2,g2,hd2⟩:=zBu d1 0 1 hd1;obtain⟨b',d3,e3,hd3⟩:=zof d2 2 hd2 (by omega)
   have start:∀y,zky (p0,d0) (p2,d2)=some y->cw 15 [.loc 1000 2 0 0] (mD d)=some y:=by intro y hy;refine zs5 ?_;simp(disch:=omega)only[e0,e1,e2,zi6,zcD,zaM,zam,zbg,hy]
   cases b' with
   |true =>
     obtain⟨p4,d4,e4,a4,b4,g4,hd4⟩:=zBu d3 1 0 hd3
     obtain⟨cs,d',e5,o3,o4,hd'⟩:=loop [p0,p2,p4] (by
      refine⟨by simp,by simp,?_,?_⟩<;>simp only[zX]
      . rintro p (rfl|rfl|rfl)
        .exact⟨g0,by omega,by omega⟩
        .exact⟨g2,by omega,by omega⟩
        .exact⟨g4,by omega,by omega⟩
      .rintro p (rfl|rfl|rfl) q (rfl|rfl|rfl) h1 h2<;>first|rfl|omega) d4 hd4
     refine⟨[p0,p2,p4],cs,d',start _ (zpi ?_),?_,o3,o4,hd'⟩
     .simp(disch:=omega)only[e3,e4,zi6,zcD,zaM,zam,zbg];exact e5
     . refine⟨by simp,by simp,?_,?_⟩<;>simp only[zX]
       . rintro p (rfl|rfl|rfl)
         .exact⟨g0,by omega,by omega⟩
         .exact⟨g2,by omega,by omega⟩
         .exact⟨g4,by omega,by omega⟩
       .rintro p (rfl|rfl|rfl) q (rfl|rfl|rfl) h1 h2<;>first|rfl|omega
   |false =>
     have hP:zlZ [p0,p2]:=by
      refine⟨by simp,by simp,?_,?_⟩<;>simp only[zX]
      . rintro p (rfl|rfl)
        .exact⟨g0,by omega,by omega⟩
        .exact⟨g2,by omega,by omega⟩
      .rintro p (rfl|rfl) q (rfl|rfl) h1 h2<;>first|rfl|omega
     obtain⟨cs,d',e5,o3,o4,hd'⟩:=loop [p0,p2] hP d3 hd3;refine⟨[p0,p2],cs,d',start _ (zpi ?_),hP,o3,o4,hd'⟩;simp(disch:=omega)only[e3,zcD,zaB];exact e5
 |false =>
   obtain⟨b',d3,e3,hd3⟩:=zof d1 2 hd1 (by omega)
   have start:∀y,zjF (p0,d0) (false,d1)=some y->cw 15 [.loc 1000 2 0 0] (mD d)=some y:=by intro y hy;refine zs5 ?_;simp(disch:=omega)only[e0,e1,zi6,zcD,zaB,zam,zbg,hy]
   cases b' with
   |true =>
     obtain⟨p4,d4,e4,a4,b4,g4,hd4⟩:=zBu d3 1 0 hd3
     have hP:zlZ [p0,p4]:=by
      refine⟨by simp,by simp,?_,?_⟩<;>simp only[zX]
      . rintro p (rfl|rfl)
        .exact⟨g0,by omega,by omega⟩
        .exact⟨g4,by omega,by omega⟩
      .rintro p (rfl|rfl) q (rfl|rfl) h1 h2<;>first|rfl|omega
     obtain⟨cs,d',e5,o3,o4,hd'⟩:=loop [p0,p4] hP d4 hd4;refine⟨[p0,p4],cs,d',start _ (zn3 ?_),hP,o3,o4,hd'⟩;simp(disch:=omega)only[e3,e4,zi6,zcD,zaM,zam,zbg];exact e5
   |false =>
     have hP:zlZ [p0]:=by
      refine⟨by simp,by simp,?_,?_⟩<;>simp only[zX]
      . rintro p rfl
        exact⟨g0,by omega,by omega⟩
      .rintro p rfl q rfl h1 h2;rfl
     obtain⟨cs,d',e5,o3,o4,hd'⟩:=loop [p0] hP d3 hd3;refine⟨[p0],cs,d',start _ (zn3 ?_),hP,o3,o4,hd'⟩;simp(disch:=omega)only[e3,zcD,zaB];exact e5
def zyf(l:List zbA):Prop:=2<=l.length/\l.length<=5/\zv2 l/\(∀m∈l,m.h.length<=2)/\∀m∈l,m.ID<=15
def c_Markers(d:zag)(hd:DOk d):∃(l:List zbA) (d':zag),cw 16 [.loc 1000 2 0 0] (mD d)=some (zks (l,d'))/\zyf l/\DOk d':=by
 have asc1:∀{l:List zbA} {m:zbA},AscBy zbA.ID l->(∀x∈l,x.ID<m.ID)->AscBy zbA.ID (l++[m]):=by
  intro l m h1 h2 j hj;simp at hj;by_cases h:j+1<l.length
  .rw[zdh (by omega),zdh h];exact h1 j h
  . have hj':j+1=l.length:=by omega
    rw[zdh (by omega),zf1 (by omega)];simpa using h2 _ (zaq (by omega))
 have loop:∀(k:Nat) (l:List zbA) (d:zag) (id:Int),DOk d->0<=id->id<=3*l.length->l.length+k<=5->(∀m∈l,zCY m/\AscBy _root_.id m.h)->AscBy zbA.ID l->(∀m∈l,m.ID<=id)->(∀m∈l,m.h.length<=2)->∃(l':List zbA) (d':zag),zi9 (mL l) d id k=some (zks (l',d'))/\(l'.length=l.length+k/\(∀m∈l',zCY m/\AscBy _root_.id m.h)/\AscBy zbA.ID l'/\(∀m∈l',m.h.length<=2)/\∀m∈l',m.ID<=15)/\DOk d':=by
  intro k
  induction k with
  |zero=>intro l d id hd h0 h1 h2 h3 h4 h5 h6;refine⟨l,d,zqV ?_,⟨rfl,h3,h4,h6,λm hm=>by have:=h5 m hm;omega⟩,hd⟩;simp(disch:=omega)only[zaC,zbg];rfl
  |succ k ih =>
    intro l d id hd h0 h1 h2 h3 h4 h5 h6;obtain⟨n0,d0,e0,a0,b0,hd0⟩:=zcO d 3 hd (by omega);obtain⟨n1,d1,e1,a1,hd1⟩:=zq3 d0 [-1,-1,1,2,3] hd0 (by simp) (by simp);obtain⟨n2,d2,e2,a2,hd2⟩:=zq3 d1 [1,1,1,2,3] hd1 (by simp) (by simp);obtain⟨n3,d3,e3,a3,hd3⟩:=zq3 d2 [3,2,6,0,1] hd2 (by simp) (by simp);obtain⟨n4,d4,e4,a4,b4,hd4⟩:=zcO d3 4 hd3 (by omega);have hlt:n4.toNat<([[0,1],[0],[1],[0,1]]:List (List Int)).length:=by simp;omega
    have hpapers:∀q∈([[0,1],[0],[1],[0,1]]:List (List Int)),(∀n∈q,0<=n/\n<=31)/\AscBy _root_.id q/\q.length<=2:=by
     intro q hq;simp only[zX]at hq
     have A:AscBy _root_.id ([0,1]:List Int):=λj hj=>by
      simp at hj;have:j=0:=by omega
      subst this;show(0:Int)<1;omega
     rcases hq with rfl|rfl|rfl|rfl
     .exact⟨by simp,A,by simp⟩
     .exact⟨by simp,λj hj=>by simp at hj,by simp⟩
     .exact⟨by simp,λj hj=>by simp at hj,by simp⟩
     .exact⟨by simp,A,by simp⟩
    obtain⟨q1,q2,q3⟩:=hpapers _ (zaq hlt);simp only[zX]at a1 a2 a3
    obtain⟨l',d',e5,o1,hd'⟩:=ih (l++[⟨id+(1+n0),n1,n2,n3,([[0,1],[0],[1],[0,1]]:List (List Int))[n4.toNat]⟩]) d4 (id+(1+n0)) hd4 (by omega) (by simp;omega) (by simp;omega)
     (by
      intro m hm;rcases zaX.1 hm with h|h
      .exact h3 m h
      . simp only[zbs]at h;subst h
        refine⟨⟨?_,?_,?_,?_,q1⟩,q2⟩<;>dsimp only<;>omega)
     (asc1 h4 (λx hx=>by have:=h5 x hx;dsimp only;omega))
     (by
      intro m hm;rcases zaX.1 hm with h|h
      .have:=h5 m h;omega
      . simp only[zbs]at h;subst h
        dsimp only;omega)
     (by
      intro m hm;rcases zaX.1 hm with h|h
      .exact h6 m h
      . simp only[zbs]at h;subst h
        exact q3)
    refine⟨l',d',zqV ?_,⟨by have:=o1.1;simp at this;omega,o1.2⟩,hd'⟩;have e6:w64 (((k+1:Nat):Int)-1)=(k:Int):=by rw[w6Q];omega
    simp(disch:=omega)only[zL,zI,zaz,e0,e1,e2,e3,e4,zaY,zaY,e6];rw[show([zea [0,1],zea [0],zea [1],zea [0,1]]:List (List AV))=mZ [[0,1],[0],[1],[0,1]]from rfl,zIT,zaa hlt,zad];simp(disch:=omega)only[zL,zI,zbW,e5]
 obtain⟨n,d0,e0,a0,b0,hd0⟩:=zcO d 4 hd (by omega);obtain⟨l',d',e1,⟨o1,o2,o3,o4,o5⟩,hd'⟩:=loop (2+n).toNat [] d0 0 hd0 (by omega) (by simp) (by simp;omega) (by simp) (λj hj=>by simp at hj) (by simp) (by simp);simp at o1;refine⟨l',d',zzP ?_,⟨by omega,by omega,⟨by omega,o2,o3⟩,o4,o5⟩,hd'⟩;simp only[e0,zaY];rw[w6Q];rw[zho (by omega)]at e1;exact e1
def asc_snoc{α:Type}{f:α->Int}{l:List α}{m:α}(h1:AscBy f l)(h2:∀x∈l,f x<f m):AscBy f (l++[m]):=by
 intro j hj;simp at hj;by_cases h:j+1<l.length
 .rw[zdh (by omega),zdh h];exact h1 j h
 . have hj':j+1=l.length:=by omega
   rw[zdh (by omega),zf1 (by omega)];simpa using h2 _ (zaq (by omega))
def zod(n:Int)(p:zaQ)(x:zaK):Prop:=
 x.v=p.V/\x.D=p.D/\x.l=p.V*10000+x.b/\(1<=x.b/\x.b<=n)/\(1<=x.w/\x.w<=3)/\x.r.length=2/\(∀y∈x.r,0<=y/\y<=1000000)/\OkAns p x.I/\∀v∈x.I,-2<=v/\v<=5
def c_DScript(d:zag)(p:zaQ)(c n:Int)(hd:DOk d)(hp:DPaper p)(h1:0<=p.V/\p.V<=31)(hc:1<=c/\c<=n)(hn:n<=9):∃(x:zaK) (d':zag),cw 66 [.loc 1000 2 0 0,.agg (zaO p),I c] (mD d)=some (zll (x,d'))/\zod n p x/\x.b=c/\DOk d':=by
 have hl:=hp.1;obtain⟨n0,d0,e0,a0,b0,hd0⟩:=zcO d 3 hd (by omega);obtain⟨n1,d1,e1,a1,b1,hd1⟩:=zcO d0 3 hd0 (by omega);have loop:=zds p.d (λi r=>∀(a:aQ) (d2:zag),(a.length:Int)=i->DOk d2->(∀(j:Nat) (x:GPart) (v:Int),p.d[j]?=some x->a[j]?=some v->x.k≠1->-2<=v/\v<x.X)->(∀v∈a,-2<=v/\v<=5)->∃(x:zaK) (d':zag),zhA d p c (n0,d0) (n1,d1) (List.map zaj a) d2 i=some (zll (x,d'))/\zod n p x/\x.b=c/\DOk d') ?_ ?_ [] d1 (by simp) hd1 (by intro j x v _ h;simp at h) (by simp)
 .obtain⟨x,d',e2,h⟩:=loop;refine⟨x,d',zAI ?_,h⟩;simp only[e0,e1,zaY];exact e2
 . intro a d2 ha hd2 hok hva;refine⟨⟨p.V*10000+c,p.V,c,1+n0,p.D,[100*c+p.V,n1],a⟩,d2,zmV ?_,?_,rfl,hd2⟩
   .simp(disch:=omega)only[zW,zaC,zav,w64_id];rw[zar (by simp),zar (by simp)];rfl
   .refine⟨rfl,rfl,rfl,hc,by dsimp only;omega,rfl,?_,⟨by dsimp only;omega,hok⟩,hva⟩;intro y hy;simp only[zX]at hy;omega
 . intro i hi r hr ih a d2 ha hd2 hok hva;obtain⟨hx,_⟩:=hp.2.2 _ (zaq hi)
   have snoc:∀v:Int,(p.d[i].k≠1->-2<=v/\v<p.d[i].X)->∀(j:Nat) (x:GPart) (w:Int),p.d[j]?=some x->(a++[v])[j]?=some w->x.k≠1->-2<=w/\w<x.X:=by
    intro v hv j x w hj hw;by_cases hja:j<a.length
    .rw[zeJ hja]at hw;exact hok j x w hj hw
    . have:=(zal.1 hw).1;simp at this;have hji:j=a.length:=by omega
      subst hji;simp at hw;subst hw;have:i=a.length:=by omega
      subst this;rw[zaa hi]at hj;injection hj with hj;subst hj;exact hv
   have sn2:∀v:Int,(-2<=v/\v<=5)->∀w∈a++[v],-2<=w/\w<=5:=by
    intro v hv w hw;rcases zaX.1 hw with hw|hw
    .exact hva w hw
    .simp only[zbs]at hw;subst hw;exact hv
   rcases kind2 hx with hk|hk
   .obtain⟨x,d',e2,h⟩:=ih (a++[-1]) d2 (by simp;omega) hd2 (snoc _ (λh=>absurd hk h)) (sn2 _ (by omega));refine⟨x,d',zmV ?_,h⟩;simp(disch:=omega)only[zE,zbg,zfj,zaa hi,show(p.d[i].k==2)=false by rw[hk];rfl,zaB,zbW zaj,e2]
   . obtain⟨v,d3,e3,hv,hd3⟩:=zq3 d2 [p.d[i].xy,0,1,-1,-2] hd2 (by simp) (by simp)
     have hv':-2<=v/\v<p.d[i].X:=by unfold OkPart at hx;simp only[zX]at hv;omega
     obtain⟨x,d',e2,h⟩:=ih (a++[v]) d3 (by simp;omega) hd3 (snoc _ (λ_=>hv')) (sn2 _ (by unfold OkPart at hx;omega));refine⟨x,d',zmV ?_,h⟩;simp(disch:=omega)only[zE,zbg,zfj,zaa hi,show(p.d[i].k==2)=true by rw[hk];rfl,zaM,e3,zaY,zbW zaj,e2]
def zqf(n:Int)(ps:List zaQ)(l:ab):Prop:=(∀x∈l,∃p∈ps,zod n p x)/\AscBy zaK.l l/\(l.length:Int)<=2*n
def c_Scripts(d:zag)(ps:List zaQ)(n:Int)(hd:DOk d)(hps:zlZ ps)(hn:0<=n/\n<=9):∃(l:ab) (d':zag),cw 31 [.loc 1000 2 0 0,.sl 3 (mH ps),I n] (mD d)=some (zkt (l,d'))/\zqf n ps l/\DOk d':=by
 have hpl:=hps.2.1
 let Inv:Int->List zaK->Prop:=λcode l=>(∀x∈l,(∃p∈ps,zod n p x)/\x.l<code*10000)/\AscBy zaK.l l/\(l.length:Int)<=code*n
 let Res:Option (AV×Mem)->Prop:=λo=>∃(l:ab) (d':zag),o=some (zkt (l,d'))/\zqf n ps l/\DOk d'
 have stage2:∀(out:ab) (d:zag),Inv 2 out->DOk d->Res (zfh ps n (mC out) d 2):=by intro out d hi hd;refine⟨out,d,zqW ?_,⟨λx hx=>(hi.1 x hx).1,hi.2.1,hi.2.2⟩,hd⟩;simp(disch:=omega)only[zaC,zbg];rfl
 have step:∀(code:Int),0<=code->code<=1->(∀(out:ab) (d:zag),Inv (code+1) out->DOk d->Res (zfh ps n (mC out) d (code+1)))->∀(out:ab) (d:zag),Inv code out->DOk d->Res (zfh ps n (mC out) d code):=by
  intro code hc0 hc1 next out d hi hd
  have third:∀(l:List zaQ),(∀p∈l,p∈ps/\p.V=code)->l.length<=3->∀(m:Nat) (c:Int) (out:ab) (d:zag),c+m=n+1->1<=c->(∀x∈out,(∃p∈ps,zod n p x)/\x.l<code*10000+c)->AscBy zaK.l out->(out.length:Int)<=code*n+(c-1)->DOk d->Res (zhc ps n code (mH l) (mC out) d c):=by
   intro l hl hll m
   induction m with
   |zero =>
     intro c out d hc h1 g1 g2 g3 hd;obtain⟨l',d',e1,h⟩:=next out d ⟨λx hx=>⟨(g1 x hx).1,by have:=(g1 x hx).2;rw[zhl];omega⟩,g2,by rw[zhl];omega⟩ hd
     refine⟨l',d',zjl ?_,h⟩;simp(disch:=omega)only[zaC,w64_id,e1]
   |succ m ih =>
     intro c out d hc h1 g1 g2 g3 hd;have hcn:code*n<=9:=by rcases(by omega:code=0\/code=1)with h|h<;>rw[h]<;>omega
     have hol:out.length<=20:=by omega
     by_cases hlz:0<l.length
     . obtain⟨n0,d0,e0,a0,b0,hd0⟩:=zcO d 5 hd (by omega);by_cases h0:0<n0
       . obtain⟨n1,d1,e1,a1,b1,hd1⟩:=zcO d0 l.length hd0 (by omega);have hlt:n1.toNat<l.length:=by omega
         obtain⟨hp1,hp2⟩:=hl _ (zaq hlt);obtain⟨q1,q2,q3⟩:=hps.2.2.1 _ hp1;obtain⟨x,d2,e2,hx,hxc,hd2⟩:=c_DScript d1 l[n1.toNat] c n hd1 q1 (by omega) (by omega) hn.2;have hxn:=hx.2.2.1
         obtain⟨l',d',e3,h⟩:=ih (c+1) (out++[x]) d2 (by omega) (by omega)
          (by
           intro y hy;rcases zaX.1 hy with hy|hy
           .exact⟨(g1 y hy).1,by have:=(g1 y hy).2;omega⟩
           . simp only[zbs]at hy;subst hy
             exact⟨⟨_,hp1,hx⟩,by rw[hxn,hp2,hxc];omega⟩)
          (asc_snoc g2 (λy hy=>by rw[hxn,hp2,hxc];exact(g1 y hy).2))
          (by simp;omega) hd2
         refine⟨l',d',zjl ?_,h⟩;simp(disch:=omega)only[zW,zL,zaz,e0,zaY,e1,zdF,zaa hlt,zad,e2,zw8,zbW zaA,e3]
       .obtain⟨l',d',e3,h⟩:=ih (c+1) out d0 (by omega) (by omega) (λy hy=>⟨(g1 y hy).1,by have:=(g1 y hy).2;omega⟩) g2 (by omega) hd0;refine⟨l',d',zjl ?_,h⟩;simp(disch:=omega)only[zN,zaz,e0,zaY,w64_id,e3]
     . obtain⟨l',d',e1,h⟩:=next out d ⟨λx hx=>⟨(g1 x hx).1,by have:=(g1 x hx).2;rw[zhl];omega⟩,g2,by rw[zhl];omega⟩ hd
       refine⟨l',d',zjl ?_,h⟩;simp(disch:=omega)only[zN,zaz,w64_id,e1]
  have second:=zds ps (λi r=>∀l:List zaQ,(∀p∈l,p∈ps/\p.V=code)->(l.length:Int)<=i->Res (zhb ps n (mC out) d code (mH l) i)) ?_ ?_ [] (by simp) (by simp)
  .obtain⟨l',d',e1,h⟩:=second;refine⟨l',d',zqW ?_,h⟩;simp(disch:=omega)only[zaz];exact e1
  .intro l hl hll;obtain⟨l',d',e1,h⟩:=third l hl (by omega) n.toNat 1 out d (by omega) (by omega) (λx hx=>⟨(hi.1 x hx).1,by have:=(hi.1 x hx).2;omega⟩) hi.2.1 (by have:=hi.2.2;omega) hd;refine⟨l',d',zmo ?_,h⟩;simp(disch:=omega)only[zN,e1]
  . intro i hi' r hr ih l hl hll;by_cases hcode:ps[i].V=code
    . obtain⟨l',d',e1,h⟩:=ih (l++[ps[i]]) (by
       intro p hp;rcases zaX.1 hp with hp|hp
       .exact hl p hp
       . simp only[zbs]at hp;subst hp
         exact⟨zaq hi',hcode⟩) (by simp;omega)
      refine⟨l',d',zmo ?_,h⟩;simp(disch:=omega)only[zE,zbg,zdF,zaa hi',show(ps[i].V==code)=true by simpa using hcode,zaM,zbW zaO,e1]
    .obtain⟨l',d',e1,h⟩:=ih l hl (by omega);refine⟨l',d',zmo ?_,h⟩;simp(disch:=omega)only[zE,zbg,zdF,zaa hi',show(ps[i].V==code)=false by simpa using hcode,zaB,e1]
 have stage1:=step 1 (by omega) (by omega) stage2;have stage0:=step 0 (by omega) (by omega) stage1;obtain⟨l,d',e1,h⟩:=stage0 [] d ⟨by simp,λj hj=>by simp at hj,by simp⟩ hd;exact⟨l,d',zzR e1,h⟩
def zyn:zaQ:=⟨0,0,[]⟩
def zyp(ps:List zaQ)(x:zaK)(hl:ps.length<=1000000):cw 52 [.sl 3 (mH ps),.agg (zaA x)] []=some (zrD (((zfu ps x).map (·.2)).getD zyn)):=by
 refine zJW ?_;have key:=zvr ps (λp=>p.V==x.v&&p.D==x.D) (λi=>zma ps x i) (λo=>zrD ((o.map (·.2)).getD zyn)) ?_ ?_ ?_
 .exact key
 .exact zsI (by simp(disch:=omega) [zaC]<;>rfl)
 .intro i hi h;refine zsI ?_;rw[zaU]at h;simp(disch:=omega) [zaz,zam,h.1,h.2];rfl
 . intro i hi y h hk;refine zsI ?_
   cases h1:(ps[i].V==x.v)with
   |false=>simp(disch:=omega) [zaz,zam,w64_id,h1,hk]
   |true=>rw[h1,zdK]at h;simp(disch:=omega) [zaz,zam,w64_id,h1,h,hk]
def c_Monitor(d:zag)(hd:DOk d):∃(r:zbT) (d':zag),cw 17 [.loc 1000 2 0 0] (mD d)=some (znC (r,d'))/\OkMon r/\DOk d':=by obtain⟨n0,d0,e0,a0,b0,hd0⟩:=zcO d 3 hd (by omega);obtain⟨n1,d1,e1,a1,b1,hd1⟩:=zcO d0 2 hd0 (by omega);obtain⟨n2,d2,e2,a2,b2,hd2⟩:=zcO d1 3 hd1 (by omega);obtain⟨n3,d3,e3,a3,b3,hd3⟩:=zcO d2 (1+n0) hd2 (by omega);refine⟨⟨n1,n2,1+n0,1+n3⟩,d3,zzQ ?_,by refine⟨?_,?_,?_,?_⟩<;>dsimp only<;>omega,hd3⟩;simp(disch:=omega)only[e0,e1,e2,zaY,w64_id,e3];rfl
structure DSetup(s:zaZ):Prop where
 papers:zlZ s.h
 markers:zyf s.u
 scripts:zqf 4 s.h s.j
def paperIx_of{ps:List zaQ}(hps:zlZ ps){n:Int}{p:zaQ}{x:zaK}(hp:p∈ps)(hx:zod n p x):∃k,zfu ps x=some (k,p):=by
 unfold zfu
 cases hf:fnd (λp=>p.V==x.v&&p.D==x.D) 0 ps with
 |none=>have:=zyB.1 hf p hp;rw[hx.1,hx.2.1]at this;simp at this
 |some q=>obtain⟨k,p'⟩:=q;obtain⟨h1,h2,_⟩:=fnd_at hf;simp only[zaU,beq_iff_eq]at h2;have:=hps.2.2.2 p' (zau h1) p hp (by rw[h2.1,hx.1]) (by rw[h2.2,hx.2.1]);rw[this];exact⟨k,rfl⟩
def zKw{n m:Int}(h:n<=m){ps:List zaQ}{l:ab}(hl:zqf n ps l):zqf m ps l:=
 ⟨λx hx=>by
  obtain⟨p,hp,a,b,c,d,e⟩:=hl.1 x hx
  exact⟨p,hp,a,b,c,⟨d.1,by omega⟩,e⟩,hl.2.1,by have:=hl.2.2;omega⟩
def Sat{β:Type}(Q:β->Prop)(o:Option β):Prop:=∃y,o=some y/\Q y
def sat_of{β:Type}{Q:β->Prop}{a b:Option β}(h:∀y,a=some y->b=some y)(ha:Sat Q a):Sat Q b:=by obtain⟨y,e,hq⟩:=ha;exact⟨y,h y e,hq⟩
def za1{β:Type}{Q:β->Prop}{y:β}(h:Q y):Sat Q (some y):=⟨y,rfl,h⟩
def ofScript{s:zaZ}(hs:DSetup s){x:zaK}(hx:x∈s.j):∃k p,zfu s.h x=some (k,p)/\p∈s.h/\zod 4 p x/\DPaper p:=by obtain⟨p,hp,h⟩:=hs.scripts.1 x hx;obtain⟨k,hk⟩:=paperIx_of hs.papers hp h;exact⟨k,p,hk,hp,h,(hs.papers.2.2.1 p hp).1⟩
def Nf(n:Int):Prop:=-1000000000<=n/\n<=1000000000
structure EvF(e:zak):Prop where
 kind:e.k=0
 marker:e.E=0
 time:Nf e.c.p
 source:Nf e.c.n
 seq:Nf e.c.S
 script:Nf e.g
 part:Nf e.G
 value:Nf e.q
 few:e.r.length<=12
 pages:∀p∈e.r,Nf p
def zA9{n:Int}(hn:n<=9){ps:List zaQ}(hps:zlZ ps){x:zaK}{p:zaQ}(hp:p∈ps)(h:zod n p x):Nf x.l/\Nf x.v/\Nf x.b/\Nf x.w/\Nf x.D/\(∀y∈x.r,Nf y)/\(∀y∈x.I,Nf y)/\x.r.length=2/\x.I.length<=3:=by
 obtain⟨a,b,c,d,e,f,g,i,j⟩:=h;obtain⟨q1,q2,q3⟩:=hps.2.2.1 p hp;unfold Nf;refine⟨by omega,by omega,by omega,by omega,by omega,λy hy=>?_,λy hy=>?_,f,by rw[i.1];exact q1.1⟩
 .have:=g y hy;omega
 .have:=j y hy;omega
def c_Mark(d:zag)(s:zaZ)(a b:Int)(hd:DOk d)(hs:DSetup s)(ha:Nf a)(hb:Nf b):∃(e:zak) (d':zag),cw 67 [.loc 1000 2 0 0,.agg (za4 s),I a,I b] (mD d)=some (zqA (e,d'))/\EvF e/\DOk d':=by
 have hm:=hs.markers;have hsl:=hs.scripts.2.2;have hpl:=hs.papers.2.1;obtain⟨n0,d0,e0,a0,b0,hd0⟩:=zcO d s.u.length hd (by have:=hm.2.1;omega);have hlt:n0.toNat<s.u.length:=by have:=hm.1;omega
 have hid:Nf s.u[n0.toNat].ID:=by have:=hm.2.2.2.2 _ (zaq hlt);have:=(hm.2.2.1.2.1 _ (zaq hlt)).1.1;unfold Nf;omega
 have z0:Nf 0:=⟨by decide,by decide⟩
 by_cases hz:s.j.length=0
 .refine⟨⟨⟨b,s.u[n0.toNat].ID,a⟩,0,0,0,0,0,[]⟩,d0,zql ?_,⟨rfl,rfl,hb,hid,ha,z0,z0,z0,by simp,by simp⟩,hd0⟩;simp(disch:=omega)only[zW,e0,zaY,zam,zfB,zaa hlt,zad,hz,Int.ofNat_zero,Int.natCast_zero,beq_self_eq_true,zaM,zav];rfl
 . obtain⟨n1,d1,e1,a1,b1,hd1⟩:=zcO d0 s.j.length hd0 (by omega);have hl1:n1.toNat<s.j.length:=by omega
   obtain⟨k,p,hk,hp,hx,hdp⟩:=ofScript hs (zaq hl1);have hpp:=hdp.1;have hpq:=hdp.2.1;have hpg:=hx.2.2.2.2.2.1;obtain⟨n2,d2,e2,a2,b2,hd2⟩:=zcO d1 p.d.length hd1 (by omega);have hl2:n2.toNat<p.d.length:=by omega
   have hx2:=(hdp.2.2 _ (zaq hl2)).1.1;obtain⟨f1,f2,f3,f4,f5,f6,f7,f8,f9⟩:=zA9 (by decide) hs.papers hp hx;have hn2:Nf n2:=by unfold Nf;omega
   obtain⟨n3,d3,e3,a3,b3,hd3⟩:=zcO d2 (p.d[n2.toNat].N+2) hd2 (by omega);obtain⟨v,d4,e4,hd4⟩:=zof d3 12 hd3 (by omega);have hz':((s.j.length:Int)==0)=false:=by simp;intro h;exact hz (by simpa using h)
   cases v with
   |true=>refine⟨⟨⟨b,s.u[n0.toNat].ID,a⟩,0,s.j[n1.toNat].l,n2,n3-1,0,[]⟩,d4,zql ?_,⟨rfl,rfl,hb,hid,ha,f1,hn2,by unfold Nf;dsimp only;omega,by simp,by simp⟩,hd4⟩;simp(disch:=omega)only[zL,zab,e0,zaY,zfB,zaa hlt,zad,hz',zaB,e1,zdU,zaa hl1,zyp s.h _ (show s.h.length<=1000000 by omega),hk,zcM,zci,zmA,e2,zfj,zaa hl2,e3,e4,zcD,zaM];exact zxZ (by simp(disch:=omega)only[zaI,zav,zbg,w64_id];rfl)
   |false =>
     refine⟨⟨⟨b,s.u[n0.toNat].ID,a⟩,0,s.j[n1.toNat].l,n2,n3-1,0,s.j[n1.toNat].r⟩,d4,zql ?_,⟨rfl,rfl,hb,hid,ha,f1,hn2,by unfold Nf;dsimp only;omega,by dsimp only;omega,f6⟩,hd4⟩;simp(disch:=omega)only[zL,zab,e0,zaY,zfB,zaa hlt,zad,hz',zaB,e1,zdU,zaa hl1,zyp s.h _ (show s.h.length<=1000000 by omega),hk,zcM,zci,zmA,e2,zfj,zaa hl2,e3,e4,zcD,zaB]
     exact zvZ (by
      simp(disch:=omega)only[zW,zav,w64_id];rw[zar (by simp)]
      rfl)
def c_Full(d:zag)(s:zaZ)(n:Int)(hd:DOk d)(hs:DSetup s)(hn:0<=n/\n<=1000):∃(l:aP) (d':zag),cw 32 [.loc 1000 2 0 0,.agg (za4 s),I n] (mD d)=some (zmL (l,d'))/\l.length<=120/\(∀e∈l,EvF e)/\DOk d':=by
 have hm2:=hs.markers.2.1;have hsl:=hs.scripts.2.2;have hpl:=hs.papers.2.1
 let Q:AV×Mem->Prop:=λy=>∃(l:aP) (d':zag),y=zmL (l,d')/\l.length<=120/\(∀e∈l,EvF e)/\DOk d'
 have loop:=zds s.j (λi _=>∀(out:aP) (d:zag),(out.length:Int)<=15*i->(∀e∈out,EvF e)->DOk d->Sat Q (zkZ s n (mA out) d i)) ?_ ?_ [] d (by simp) (by simp) hd
 .obtain⟨y,e1,l,d',rfl,h⟩:=loop;exact⟨l,d',zDA e1,h⟩
 .intro out d hl hp hd;refine sat_of (λy=>ztj) ?_;simp(disch:=omega)only[zI,zaC];exact za1 ⟨out,d,rfl,by omega,hp,hd⟩
 . intro i hi r _ ih out d hl hp hd;obtain⟨k,p,hk,hpm,hx,hdp⟩:=ofScript hs (zaq hi);have hpp:=hdp.1;have hpg:=hx.2.2.2.2.2.1;obtain⟨f1,f2,f3,f4,f5,f6,f7,f8,f9⟩:=zA9 (by decide) hs.papers hpm hx;refine sat_of (λy=>ztj) ?_;simp(disch:=omega)only[zV,zdU,zaa hi,zyp s.h _ (show s.h.length<=1000000 by omega),hk,zcM,zci,zmA];refine zds s.u (λj _=>∀(out:aP) (d:zag),(out.length:Int)<=15*i+3*j->(∀e∈out,EvF e)->DOk d->Sat Q (zk0 s n i p (mA out) d j)) ?_ ?_ out d (by omega) hp hd
   .intro out d hl hp hd;refine sat_of (λy=>ztk) ?_;simp(disch:=omega)only[zN,w64_id];exact ih out d (by omega) hp hd
   . intro j hj r _ ih2 out d hl hp hd;refine sat_of (λy=>ztk) ?_;simp(disch:=omega)only[zab,zaz]
     have hid:Nf s.u[j].ID:=by have:=hs.markers.2.2.2.2 _ (zaq hj);have:=(hs.markers.2.2.1.2.1 _ (zaq hj)).1.1;unfold Nf;omega
     refine zds p.d (λq _=>∀(out:aP) (d:zag),(out.length:Int)<=15*i+3*j+q->(∀e∈out,EvF e)->DOk d->Sat Q (zha s n i p j (mA out) d q)) ?_ ?_ out d (by omega) hp hd
     .intro out d hl hp hd;refine sat_of (λy=>ztl) ?_;simp(disch:=omega)only[zN,w64_id];exact ih2 out d (by omega) hp hd
     . intro q hq r _ ih3 out d hl hp hd;have hmx:=(hdp.2.2 _ (zaq hq)).1.1;refine sat_of (λy=>ztl) ?_;by_cases hkd:p.d[q].k=1
       . obtain⟨n0,d0,e0,a0,b0,hd0⟩:=zcO d 4 hd (by omega);by_cases hz:0<n0
         . obtain⟨n1,d1,e1,a1,b1,hd1⟩:=zcO d0 (p.d[q].N+1) hd0 (by omega);simp(disch:=omega)only[zE,zfj,zaa hq,show(p.d[q].k==1)=true by simpa using hkd,zaM,e0,zaY,zfB,zaa hj,zdU,zaa hi,e1,zbg,zbW zah];refine ih3 (out++[_]) d1 (by simp;omega) ?_ hd1;intro x hx';rcases zaX.1 hx' with hx'|hx'
           .exact hp x hx'
           .simp only[zbs]at hx';subst hx';exact⟨rfl,rfl,by unfold Nf;dsimp only;omega,hid,by unfold Nf;dsimp only;omega,f1,by unfold Nf;dsimp only;omega,by unfold Nf;dsimp only;omega,by dsimp only;omega,f6⟩
         .simp(disch:=omega)only[zE,zaC,zfj,zaa hq,show(p.d[q].k==1)=true by simpa using hkd,zaM,e0,zaY];exact ih3 out d0 (by omega) hp hd0
       .simp(disch:=omega)only[zE,zaC,zfj,zaa hq,show(p.d[q].k==1)=false by simpa using hkd,zaB];exact ih3 out d (by omega) hp hd
variable{β:Type}{Q:β->Prop}
def sq_brn{b:Bool}{t e:Option β}(ht:b=true->Sat Q t)(he:b=false->Sat Q e):Sat Q (brn b t e):=by
 cases b with
 |true=>rw[zaM];exact ht rfl
 |false=>rw[zaB];exact he rfl
def zbq{D:RD}{o:ai}{P:D.α->Prop}{k:D.α->Option β}(h:∃v,o=some (D.enc v)/\P v)(hk:∀v,P v->Sat Q (k v)):Sat Q (callD D o k):=by obtain⟨v,rfl,hv⟩:=h;rw[zbt];exact hk v hv
def zch{D:RD}{P:D.α->Prop}{o:ai}(h:Sat (λy=>∃v,y=D.enc v/\P v) o):∃v,o=some (D.enc v)/\P v:=by obtain⟨y,e,v,rfl,hp⟩:=h;exact⟨v,e,hp⟩
set_option maxRecDepth 10000
def ziy{β:Type}{Q:β->Prop}(n:Nat)(K:Int->Option β)(h0:Sat Q (K n))(hs:∀i:Nat,i<n->Sat Q (K ((i:Int)+1))->Sat Q (K i)):Sat Q (K 0):=by
 have:∀m i:Nat,i+m=n->Sat Q (K i):=by
  intro m
  induction m with
  |zero=>intro i hi;rw[show i=n by omega];exact h0
  |succ m ih=>intro i hi;exact hs i (by omega) (by have:=ih (i+1) (by omega);rwa[show((i+1:Nat):Int)=(i:Int)+1 by omega]at this)
 exact this n 0 (by omega)
def zwr{T:Type}{A:List T}{k n:Nat}(hn:A.length=n)(hk:k<n):(List.take (k+1) A++List.take (n-(k+1)) (List.take (n-k) (List.drop k A))++List.drop (k+1+Min.min (List.take (n-k) (List.drop k A)).length (n-(k+1))) A).length=n:=by simp only[zaW,zcH,zdk];omega
def shift_mem{T:Type}{A:List T}{k n m:Nat}{g:T}(hg:g∈List.take (k+1) A++List.take (n-(k+1)) (List.take (n-k) (List.drop k A))++List.drop m A):g∈A:=by
 rcases zaX.1 hg with hg|hg
 . rcases zaX.1 hg with hg|hg
   .exact zb7 hg
   .exact zdW (zb7 (zb7 hg))
 .exact zdW hg
abbrev Tr{T:Type}:T->Prop:=λ_=>True
def s_in42(a b c:Int):∃v,cw 149 [I a,I b,I c] []=some (zao v)/\Tr v:=
 zch (D:=zac) (P:=Tr) (sat_of (λy=>e_ref42_in) (by repeat' first|exact za1 ⟨_,rfl,trivial⟩|refine sq_brn (λ_=>?_) (λ_=>?_)))
def s_Valid42(c:zbH):∃v,cw 146 [.agg (za6 c)] []=some (zao v)/\Tr v:=
 zch (D:=zac) (P:=Tr) (sat_of (λy=>zIL) (by repeat' first|exact za1 ⟨_,rfl,trivial⟩|refine sq_brn (λ_=>?_) (λ_=>?_)|refine zbq (D:=zac) (s_in42 _ _ _) (λ_ _=>?_)))
def s_find(l:aW)(n:Int)(hl:l.length<=1000):∃v,cw 147 [.sl 6 (mB l),I n] []=some (zrG v)/\Tr v:=
 zch (D:=zfk) (P:=Tr) (sat_of (λy=>zKc) (by
  refine ziy l.length (λi=>zmg l n i) ?_ (λi hi ih=>?_)
  .refine sat_of (λy=>zx9) ?_;rw[zaC (by rw[zab];omega)];exact za1 ⟨(_,_),rfl,trivial⟩
  . refine sat_of (λy=>zx9) ?_;simp(disch:=omega)only[zE,zgD,zaa hi]
    repeat' first|exact ih|exact za1 ⟨(_,_),rfl,trivial⟩|refine sq_brn (λ_=>?_) (λ_=>?_)))
def s_gone(l:aW)(n:Int)(hl:l.length<=1000):∃v,cw 103 [.sl 6 (mB l),I n] []=some (zao v)/\Tr v:=
 zch (D:=zac) (P:=Tr) (sat_of (λy=>zKd) (by
  refine ziy l.length (λi=>ziu l n i) ?_ (λi hi ih=>?_)
  .refine sat_of (λy=>zya) ?_;rw[zaC (by rw[zab];omega)];exact za1 ⟨_,rfl,trivial⟩
  . refine sat_of (λy=>zya) ?_;simp(disch:=omega)only[zE,zgD,zaa hi]
    repeat' first|exact ih|exact za1 ⟨_,rfl,trivial⟩|refine sq_brn (λ_=>?_) (λ_=>?_)))
def s_holds(l:aW)(n:Int)(hl:l.length<=1000):∃v,cw 148 [.sl 6 (mB l),I n] []=some (zao v)/\Tr v:=
 zch (D:=zac) (P:=Tr) (sat_of (λy=>zIM) (by
  refine ziy l.length (λi=>zjg l n i) ?_ (λi hi ih=>?_)
  .refine sat_of (λy=>zwT) ?_;rw[zaC (by rw[zab];omega)];exact za1 ⟨_,rfl,trivial⟩
  . refine sat_of (λy=>zwT) ?_;simp(disch:=omega)only[zE,zgD,zaa hi]
    repeat' first|exact ih|exact za1 ⟨_,rfl,trivial⟩|refine sq_brn (λ_=>?_) (λ_=>?_)|refine zbq (D:=zac) (s_gone _ _ hl) (λ_ _=>?_)))
def s_next(l:aW)(e:zaV)(hl:l.length<=1000):∃v,cw 104 [.sl 6 (mB l),.agg (zax e)] []=some (za9 v)/\(v=0->l.length<256):=by
 refine zch (D:=zaE) (P:=λv=>v=0->l.length<256) (sat_of (λy=>zKe) ?_);have no:∀k:Int,k≠0->Sat (λy=>∃v:Int,y=za9 v/\(v=0->l.length<256)) (some (I k,([]:Mem))):=λk hk=>za1 ⟨k,rfl,λh=>absurd h hk⟩
 refine sq_brn (λ_=>no 3 (by decide)) (λh256=>?_)
 have hlt:l.length<256:=by rw[zab]at h256;have:=of_decide_eq_false h256;omega
 have yes:∀k:Int,Sat (λy=>∃v:Int,y=za9 v/\(v=0->l.length<256)) (some (I k,([]:Mem))):=λk=>za1 ⟨k,rfl,λ_=>hlt⟩
 have last:∀{a b:ai},(∀y,a=some y->b=some y)->a=brn (decide (0<((mB l).length:Int))) (chk ((0:Int)<=(w64 (((mB l).length:Int)-1)))<|
   elemD zcU (mB l) ((w64 (((mB l).length:Int)-1)).toNat) λc9=>brn (decide (e.a.p<c9.a.p)) bN bK) bK->Sat (λy=>∃v:Int,y=za9 v/\(v=0->l.length<256)) b:=λhab ha=>by
  refine sat_of hab ?_;rw[ha,zab];refine sq_brn (λhp=>?_) (λ_=>yes 0);have hp:=of_decide_eq_true hp;rw[w6Q,cPQ,zgD,zaa (show((l.length:Int)-1).toNat<l.length by omega),zad];exact sq_brn (λ_=>yes 43) (λ_=>yes 0)
 repeat' first
  |with_reducible refine sq_brn (λ_=>?_) (λ_=>?_)
  |with_reducible refine zbq (D:=zac) (s_Valid42 _) (λ_ _=>?_)
  |with_reducible refine zbq (D:=zac) (s_in42 _ _ _) (λ_ _=>?_)
  |with_reducible refine zbq (D:=zfk) (s_find _ _ hl) (λ_ _=>?_)
  |with_reducible refine zbq (D:=zac) (s_gone _ _ hl) (λ_ _=>?_)
  |with_reducible refine zbq (D:=zac) (s_holds _ _ hl) (λ_ _=>?_)
  |with_reducible exact yes _
  |with_reducible exact last (λy=>zCk) rfl
  |with_reducible exact last (λy=>zzX) rfl
  |with_reducible exact last (λy=>zzY) rfl
def zGW(l:aW):∃v,cw 102 [.sl 6 (mB l)] []=some (za9 v)/\(v=0->l.length<=256):=by
 refine zch (D:=zaE) (P:=λv=>v=0->l.length<=256) (sat_of (λy=>zIK) ?_);refine sq_brn (λ_=>za1 ⟨3,rfl,λh=>by cases h⟩) (λh256=>?_)
 have hlt:l.length<=256:=by rw[zab]at h256;have:=of_decide_eq_false h256;omega
 refine ziy l.length (λi=>znX l i) ?_ (λi hi ih=>?_)
 .refine sat_of (λy=>zwS) ?_;rw[zaC (by rw[zab];omega)];exact za1 ⟨0,rfl,λ_=>hlt⟩
 .refine sat_of (λy=>zwS) ?_;simp(disch:=omega)only[zE,zgD,zaa hi,<-zd3];refine zbq (D:=zaE) (s_next (l.take i) l[i] (by rw[zcH];omega)) (λv _=>?_);exact sq_brn (λ_=>za1 ⟨v,rfl,λ_=>hlt⟩) (λ_=>ih)
def s_Append(l:aW)(e:zaV):∃v,cw 61 [.sl 6 (mB l),.agg (zax e)] []=some (zsG v)/\(v.2=0->v.1=l++[e]/\l.length<256):=by
 refine zch (D:=zj0) (P:=λv=>v.2=0->v.1=l++[e]/\l.length<256) (sat_of (λy=>zF7) ?_);refine zbq (D:=zaE) (zGW l) (λv hv=>?_);refine sq_brn (λh=>?_) (λh=>?_)
 .rw[cPQ];exact za1 ⟨([],v),rfl,λh0=>by rw[show v=0 from h0]at h;cases h⟩
 have hl:l.length<=256:=hv (by simpa using h);refine zbq (D:=zaE) (s_next l e (by omega)) (λw hw=>?_);refine sq_brn (λh=>?_) (λh=>?_)
 .rw[cPQ];exact za1 ⟨([],w),rfl,λh0=>by rw[show w=0 from h0]at h;cases h⟩
 have h2:=hw (by simpa using h);have hraw:mB l++[[I e.k,I e.a.ID,I e.a.b,I e.a.R,I e.a.p,I e.a.K]]=mB (l++[e]):=by(try simp only[<-zbW zax]);rfl
 simp(disch:=omega)only[zM,zI,hraw,zbW zax,zbn,zam];have ht:List.take (l.length+(0+1)) (mB (l++[e]))=mB (l++[e]):=zar (by simp)
 first|rw[ht]|skip
 exact za1 ⟨(l++[e],0),rfl,λ_=>⟨rfl,h2⟩⟩
def zGY(l:aW):∃v,cw 60 [.sl 6 (mB l)] []=some (zjh v)/\(v.length<=l.length/\∀c∈v,∃e∈l,c=e.a):=by
 refine zch (D:=zgH) (P:=λv=>v.length<=l.length/\∀c∈v,∃e∈l,c=e.a) (sat_of (λy=>zET) ?_);refine zbq (D:=zaE) (zGW l) (λv hv=>?_);refine sq_brn (λh=>?_) (λh=>?_)
 .exact za1 ⟨[],rfl,by simp,by simp⟩
 have hl:l.length<=256:=hv (by simpa using h)
 have loop:∀(m i:Nat) (o:List zbH),i+m=l.length->o.length<=i->(∀c∈o,∃e∈l,c=e.a)->Sat (λy=>∃v,y=zjh v/\(v.length<=l.length/\∀c∈v,∃e∈l,c=e.a)) (zhN l (mU o) o.length (i:Nat)):=by
  intro m
  induction m with
  |zero=>intro i o hi ho hc;refine sat_of (λy=>zur) ?_;rw[zaC (by rw[zab];omega),zam (by rw[zab])];exact za1 ⟨o,rfl,by omega,hc⟩
  |succ m ih =>
    intro i o hi ho hc;have hlt:i<l.length:=by omega
    have stay:=ih (i+1) o (by omega) (by omega) hc;rw[show((i+1:Nat):Int)=(i:Int)+1 by omega]at stay
    have ins:∀k:Nat,k<=o.length->Sat (λy=>∃v,y=zjh v/\(v.length<=l.length/\∀c∈v,∃e∈l,c=e.a)) (zjK l (mU o) o.length (i:Nat) l[i] (k:Nat)):=by
     intro k hk;refine sat_of (λy=>zy3) ?_;have hraw:mU o++[[I l[i].a.ID,I l[i].a.b,I l[i].a.R,I l[i].a.p,I l[i].a.K]]=mU (o++[l[i].a]):=by(try simp only[<-zbW za6]);rfl
     have hA:(o++[l[i].a]).length=o.length+1:=by simp
     have hk1:((k:Int)+1).toNat=k+1:=by omega
     simp(disch:=omega)only[zW,zL,hraw,zbW za6,hk1,zae,hA,<-zd3,<-ze5,<-zct,zgx za6,zbN];have hXl:=zwr (k:=k) hA (by omega)
     have hXm:∀g∈(List.take (k+1) (o++[l[i].a])++List.take (o.length+1-(k+1)) (List.take (o.length+1-k) (List.drop k (o++[l[i].a])))++List.drop (k+1+Min.min (List.take (o.length+1-k) (List.drop k (o++[l[i].a]))).length (o.length+1-(k+1))) (o++[l[i].a])),∃e∈l,g=e.a:=by
      intro g hg;rcases zaX.1 (shift_mem hg)with h|h
      .exact hc g h
      .exact⟨l[i],zaq hlt,by simpa using h⟩
     generalize (List.take (k+1) (o++[l[i].a])++List.take (o.length+1-(k+1)) (List.take (o.length+1-k) (List.drop k (o++[l[i].a])))++List.drop (k+1+Min.min (List.take (o.length+1-k) (List.drop k (o++[l[i].a]))).length (o.length+1-(k+1))) (o++[l[i].a]))=X at hXl hXm ⊢;have hkX:k<X.length:=by omega
     simp(disch:=omega)only[ziO,zaa hkX,zad]
     have:=ih (i+1) (X.set k l[i].a) (by omega) (by rw[zbN];omega) (λg hg=>by
      rcases zdE hg with h|h
      .exact hXm g h
      .exact⟨l[i],zaq hlt,h⟩)
     rw[zbN,hXl,show((i+1:Nat):Int)=(i:Int)+1 by omega]at this;exact this
    have go:∀k:Nat,k<=o.length->Sat (λy=>∃v,y=zjh v/\(v.length<=l.length/\∀c∈v,∃e∈l,c=e.a)) (zlP l (mU o) o.length (i:Nat) l[i] (k:Nat)):=by
     intro k
     induction k with
     |zero=>intro hk;refine sat_of (λy=>zus) ?_;rw[zaC (by omega)];exact ins 0 hk
     |succ k ihk =>
       intro hk;have hko:k<o.length:=by omega
       have hk1:((k+1:Nat):Int)-1=k:=by omega
       refine sat_of (λy=>zus) ?_;simp(disch:=omega)only[zR,zaz,hk1,zaI,ziO,zaa hko];exact sq_brn (λ_=>ihk (by omega)) (λ_=>ins (k+1) hk)
    refine sat_of (λy=>zur) ?_;simp(disch:=omega)only[zE,zgD,zaa hlt];refine sq_brn (λ_=>stay) (λ_=>?_);refine zbq (D:=zac) (s_gone _ _ (by omega)) (λ_ _=>?_);exact sq_brn (λ_=>stay) (λ_=>go o.length (zav _))
 exact loop l.length 0 [] (by omega) (by simp) (by simp)
end Go.Proofs.YtcpnffbcljkbkaaGreatDoor
namespace Go.PureDiv
open Go.Ab
section
variable{B y1 y0 u d:Nat}
end
def bit_step(a i:Nat):a / 2 ^ i=2*(a / 2 ^ (i+1))+a / 2 ^ i % 2:=by
 have h:a / 2 ^ (i+1)=a / 2 ^ i / 2:=by rw[zi4,Nat.div_div_eq_div_mul]
 rw[h];omega
def round{m b q r t:Nat}(hb:0<b)(hq:q=m / b)(hr:r=m % b)(ht:t<2):(b<=2*r+t->(2*m+t) / b=2*q+1/\(2*m+t) % b=2*r+t-b)/\(2*r+t<b->(2*m+t) / b=2*q/\(2*m+t) % b=2*r+t):=by
 have e:=Nat.div_add_mod m b;have hlt:=zej m hb;subst hq;subst hr;generalize m / b=q at *;generalize m % b=r at *;constructor
 . intro h
   have e2:2*m+t=(2*r+t-b)+(2*q+1)*b:=by rw[<-e,zdz,Nat.mul_assoc 2 q b,zef q b];omega
   rw[e2,Nat.add_mul_div_right _ _ hb,Nat.add_mul_mod_self_right,zdV (by omega),zc6 (by omega)];omega
 . intro h
   have e2:2*m+t=(2*r+t)+(2*q)*b:=by rw[<-e,Nat.mul_assoc 2 q b,zef q b];omega
   rw[e2,Nat.add_mul_div_right _ _ hb,Nat.add_mul_mod_self_right,zdV h,zc6 h];omega
end Go.PureDiv
namespace Go.Proofs.YtcpnffbcljkbkaaGreatDoor
open Go.Ab Go.PureDiv
set_option maxRecDepth 20000
def wu_mod(n:Int):wu64 n=n % 18446744073709551616:=by simp only[wu64,IntKind.wrap,IntKind.bits,IntKind.signed,show((2:Int) ^ 64)=18446744073709551616 from rfl,zeW];simp only[zK]
def fd(a:Nat)(k:Int)(m:Nat)(h:Min.min (Int.toNat k) 64=m):(a:Int).fdiv (2 ^ Min.min (Int.toNat k) 64)=((a / 2 ^ m:Nat):Int):=by rw[h,show((2:Int) ^ m)=((2 ^ m:Nat):Int)by rw[Int.natCast_pow];rfl,Int.fdiv_eq_ediv_of_nonneg _ (Int.natCast_nonneg _)];rfl
def wuN'{n:Nat}(h:n<18446744073709551616):wu64 (n:Int)=(n:Int):=zu0 (by omega) (by omega)
def wd(n:Nat):za7:=⟨((n / 18446744073709551616:Nat):Int),((n % 18446744073709551616:Nat):Int)⟩
def u64_id{n:Nat}(h:n<18446744073709551616):((n:Int) % Int.ofNat (2 ^ 64)).toNat=n:=by show((n:Int) % (18446744073709551616:Int)).toNat=n;omega
def c_Twice(n:Nat)(hn:n<340282366920938463463374607431768211456):cw 228 [.agg (zaD (wd n))] []=some (ze3 (wd (2*n % 340282366920938463463374607431768211456))):=by
 refine zIf ?_;rw[cPQ,cPQ,cPQ];show some (ze3 _)=_;congr 2;unfold wd;have e0:(2:Int) ^ Min.min (Int.toNat 1) 64=2:=rfl;have h1:n / 18446744073709551616<18446744073709551616:=by omega
 have h2:n % 18446744073709551616<18446744073709551616:=by omega
 have h3:2*n / 18446744073709551616=2*(n / 18446744073709551616)+n % 18446744073709551616 / 9223372036854775808:=by omega
 simp only[e0];rw[fd _ 63 63 rfl,wu_mod (((n / 18446744073709551616:Nat):Int)*2),wu_mod (((n % 18446744073709551616:Nat):Int)*2)];have a1:((n / 18446744073709551616:Nat):Int)*2 % 18446744073709551616=((n / 18446744073709551616*2 % 18446744073709551616:Nat):Int):=rfl;have a2:((n % 18446744073709551616:Nat):Int)*2 % 18446744073709551616=((n % 18446744073709551616*2 % 18446744073709551616:Nat):Int):=rfl;rw[a1,a2,u64_id (by omega),u64_id (by omega)]
 have hb:n % 18446744073709551616 / 2 ^ 63<2 ^ 1:=by have:(2:Nat) ^ 63=9223372036854775808:=rfl;omega
 have hm:n / 18446744073709551616*2 % 18446744073709551616=2 ^ 1*(n / 18446744073709551616 % 9223372036854775808):=by omega
 rw[hm,<-Nat.two_pow_add_eq_or_of_lt hb];have e63:(2:Nat) ^ 63=9223372036854775808:=rfl;rw[wuN' (by omega)];congr 1<;>omega
def c_Minus(a b:Nat)(ha:a<340282366920938463463374607431768211456)(hb:b<340282366920938463463374607431768211456):cw 224 [.agg (zaD (wd a)),.agg (zaD (wd b))] []=some (ze3 (wd ((a+340282366920938463463374607431768211456-b) % 340282366920938463463374607431768211456))):=by
 refine zIc ?_;have t0:Int.toNat 0=0:=rfl;have t1:Int.toNat 1=1:=rfl;have p64:(2:Nat) ^ 64=18446744073709551616:=rfl;simp only[wd,zae,t0,t1,p64];by_cases h:a % 18446744073709551616<b % 18446744073709551616+0
 . rw[if_pos h];have c0:((Int.ofNat 1)==0)=false:=rfl;have c1:((Int.ofNat 1)==1)=true:=rfl;rw[c0,c1,zaB,zaM];show some (ze3 _)=_;congr 2;have e1:(a / 18446744073709551616+18446744073709551616-b / 18446744073709551616-1) % 18446744073709551616=(a+340282366920938463463374607431768211456-b) % 340282366920938463463374607431768211456 / 18446744073709551616:=by omega
   have e2:(a % 18446744073709551616+18446744073709551616-b % 18446744073709551616-0) % 18446744073709551616=(a+340282366920938463463374607431768211456-b) % 340282366920938463463374607431768211456 % 18446744073709551616:=by omega
   rw[e1,e2];rfl
 . rw[if_neg h];have c0:((Int.ofNat 0)==0)=true:=rfl;rw[c0,zaM];show some (ze3 _)=_;congr 2;have e1:(a / 18446744073709551616+18446744073709551616-b / 18446744073709551616-0) % 18446744073709551616=(a+340282366920938463463374607431768211456-b) % 340282366920938463463374607431768211456 / 18446744073709551616:=by omega
   have e2:(a % 18446744073709551616+18446744073709551616-b % 18446744073709551616-0) % 18446744073709551616=(a+340282366920938463463374607431768211456-b) % 340282366920938463463374607431768211456 % 18446744073709551616:=by omega
   rw[e1,e2];rfl
def ord3(a b:Nat):Int:=if a<b then -1 else if a=b then 0 else 1
def c_Order(a b:Nat):cw 223 [.agg (zaD (wd a)),.agg (zaD (wd b))] []=some (za9 (ord3 a b)):=by
 refine zId ?_;have lH:(wd a).Hi<(wd b).Hi↔a / 18446744073709551616<b / 18446744073709551616:=Int.ofNat_lt;have lL:(wd a).Lo<(wd b).Lo↔a % 18446744073709551616<b % 18446744073709551616:=Int.ofNat_lt
 have hh:∀x y:Nat,(((x:Int))==(y:Int))=decide (x=y):=by
  intro x y;by_cases h:x=y
  .subst h;simp
  .rw[beq_false_of_ne (by omega)];simp[h]
 have bH:((wd a).Hi==(wd b).Hi)=decide (a / 18446744073709551616=b / 18446744073709551616):=hh _ _;have bL:((wd a).Lo==(wd b).Lo)=decide (a % 18446744073709551616=b % 18446744073709551616):=hh _ _;rw[bH,bL,ziz];unfold ord3;rw[zhI];rcases zjo (a / 18446744073709551616) (b / 18446744073709551616)with h|h|h
 .rw[if_pos (lH.2 h),iPQ];rfl
 . rw[if_neg (λc=>by have:=lH.1 c;omega),decide_eq_true h,zaM,zdK,zhI];rcases zjo (a % 18446744073709551616) (b % 18446744073709551616)with g|g|g
   .rw[if_pos (lL.2 g),iPQ];rfl
   .rw[if_neg (λc=>by have:=lL.1 c;omega),decide_eq_true g,zaM,iNQ,iPQ];rfl
   .rw[if_neg (λc=>by have:=lL.1 c;omega),decide_eq_false (by omega:¬a % 18446744073709551616=b % 18446744073709551616),zaB,iNQ,iNQ];rfl
 .rw[if_neg (λc=>by have:=lH.1 c;omega),decide_eq_false (by omega:¬a / 18446744073709551616=b / 18446744073709551616),zaB,zeW,zaB,iNQ,iNQ];rfl
def or_bit(n t:Nat)(h2:n % 2=0)(ht:t<2):(⟨(wd n).Hi,wu64 ((((wd n).Lo % Int.ofNat (2 ^ 64)).toNat ||| ((t:Int) % Int.ofNat (2 ^ 64)).toNat:Nat):Int)⟩:za7)=wd (n+t):=by
 unfold wd;simp only;rw[u64_id (by omega),u64_id (by omega)];have hm:n % 18446744073709551616=2 ^ 1*(n % 18446744073709551616 / 2):=by omega
 rw[hm,<-Nat.two_pow_add_eq_or_of_lt (by omega:t<2 ^ 1),wuN' (by omega)];congr 1<;>omega
def bit_and(X:Nat)(hX:X<18446744073709551616)(e:Int)(k:Nat)(hk:Min.min e.toNat 64=k):wu64 (((((X:Int).fdiv (2 ^ Min.min e.toNat 64)) % Int.ofNat (2 ^ 64)).toNat &&& ((1:Int) % Int.ofNat (2 ^ 64)).toNat:Nat):Int)=((X / 2 ^ k % 2:Nat):Int):=by rw[fd _ _ k hk];have h1:X / 2 ^ k<=X:=zb5 _ _;rw[u64_id (by omega),show((1:Int) % Int.ofNat (2 ^ 64)).toNat=2 ^ 1-1 from rfl,zfY,wuN' (by omega)]
def rnd(a0 a1 x0 x1:za7)(x2 T:Int):Option (AV×Mem):=
 chk ((0:Int)<=63)<|
 callD zb2 (cw 228 [sU x1] []) λ(r3:za7) =>
 callD zb2 (cw 228 [sU x0] []) λ(r4:za7) =>
 brn (x1.Hi.fdiv (2 ^ Min.min (Int.toNat 63) 64)==1) (ze7 a0 a1 x2 r4 (⟨r3.Hi,wu64 (↑((r3.Lo % Int.ofNat (2 ^ 64)).toNat ||| (T % Int.ofNat (2 ^ 64)).toNat):Int)⟩))
 (callD zaE (cw 223 [AV.agg (zaD (⟨r3.Hi,wu64 (↑((r3.Lo % Int.ofNat (2 ^ 64)).toNat ||| (T % Int.ofNat (2 ^ 64)).toNat):Int)⟩)),sU a1] []) λ(r7:Int) =>
  brn (decide (0<=r7)) (ze7 a0 a1 x2 r4 (⟨r3.Hi,wu64 (↑((r3.Lo % Int.ofNat (2 ^ 64)).toNat ||| (T % Int.ofNat (2 ^ 64)).toNat):Int)⟩))
  (ze6 a0 a1 r4 (⟨r3.Hi,wu64 (↑((r3.Lo % Int.ofNat (2 ^ 64)).toNat ||| (T % Int.ofNat (2 ^ 64)).toNat):Int)⟩) (w64 (x2-1))))
def t1010{a0 a1 x0 x1:za7}{x2:Int}{y:AV×Mem}(h:rnd a0 a1 x0 x1 x2 (wu64 (↑((a0.Hi.fdiv (2 ^ Min.min (wu64 (w64 (x2-64))).toNat 64) % Int.ofNat (2 ^ 64)).toNat &&& (1 % Int.ofNat (2 ^ 64)).toNat):Int))=some y):znB a0 a1 x0 x1 x2=some y:=
 zzS h
def t1010v1{a0 a1 x0 x1:za7}{x2:Int}{y:AV×Mem}(h:rnd a0 a1 x0 x1 x2 (wu64 (↑((a0.Lo.fdiv (2 ^ Min.min (wu64 (x2.tmod 64)).toNat 64) % Int.ofNat (2 ^ 64)).toNat &&& (1 % Int.ofNat (2 ^ 64)).toNat):Int))=some y):zmb a0 a1 x0 x1 x2=some y:=
 zx0 h
def rnd_ok{a b m t:Nat}{i:Int}{y:AV×Mem}(hb:0<b)(hb2:b<340282366920938463463374607431768211456)(ht:t<2)(hm:2*m+t<340282366920938463463374607431768211456)
  (ih:ze6 (wd a) (wd b) (wd ((2*m+t) / b)) (wd ((2*m+t) % b)) (w64 (i-1))=some y):rnd (wd a) (wd b) (wd (m / b)) (wd (m % b)) i (t:Int)=some y:=by
 obtain⟨r1,r2⟩:=round (t:=t) hb rfl (rfl:m % b=m % b) ht;have hr:=zej m hb;have hq:(2*m+t) / b<=2*m+t:=zb5 _ _;have hq0:m / b<=m:=zb5 _ _;generalize m % b=r at *;generalize hqq:m / b=q at *;unfold rnd;rw[cPQ,c_Twice r (by omega),zcz,c_Twice q (by omega),zcz];have eq2:2*q % 340282366920938463463374607431768211456=2*q:=zc6 (by omega);rw[or_bit (2*r % 340282366920938463463374607431768211456) t (by omega) ht,eq2]
 have big:b<=2*r+t->ze7 (wd a) (wd b) i (wd (2*q)) (wd (2*r % 340282366920938463463374607431768211456+t))=some y:=by
  intro h;obtain⟨e1,e2⟩:=r1 h;refine zzT ?_;rw[c_Minus _ _ (by omega) hb2,zcz];have o:=or_bit (2*q) 1 (by omega) (by omega);have e3:(2*r % 340282366920938463463374607431768211456+t+340282366920938463463374607431768211456-b) % 340282366920938463463374607431768211456=2*r+t-b:=by omega
  rw[e3];rw[e1,e2]at ih;rw[show(1:Int)=((1:Nat):Int)from rfl,o];exact ih
 have hH:(wd r).Hi.fdiv (2 ^ Min.min (Int.toNat 63) 64)=((r / 18446744073709551616 / 2 ^ 63:Nat):Int):=fd _ 63 63 rfl;have e63:(2:Nat) ^ 63=9223372036854775808:=rfl;rw[hH,e63];by_cases ho:r / 18446744073709551616 / 9223372036854775808=1
 .rw[ho,show(((1:Nat):Int)==1)=true from rfl,zaM];exact big (by omega)
 . rw[beq_false_of_ne (by omega),zaB,c_Order,zcj];have e4:2*r % 340282366920938463463374607431768211456=2*r:=zc6 (by omega);by_cases hg:b<=2*r+t
   .rw[decide_eq_true (by unfold ord3;rw[if_neg (show¬_<_ by omega)];split<;>omega),zaM];exact big hg
   .obtain⟨e1,e2⟩:=r2 (by omega);rw[decide_eq_false (by unfold ord3;rw[if_pos (show _<_ by omega)];omega),zaB,e4];rw[e1,e2]at ih;exact ih
def low_bit(a i:Nat)(hi:i<64):a % 18446744073709551616 / 2 ^ i % 2=a / 2 ^ i % 2:=by have h:=Nat.testBit_mod_two_pow a 64 i;rw[decide_eq_true hi,zdK]at h;rw[<-Nat.toNat_testBit,<-Nat.toNat_testBit];exact congrArg Bool.toNat h
def high_bit(a i:Nat)(hi:64<=i):a / 18446744073709551616 / 2 ^ (i-64) % 2=a / 2 ^ i % 2:=by rw[show(18446744073709551616:Nat)=2 ^ 64 from rfl,Nat.div_div_eq_div_mul,<-Nat.pow_add,show 64+(i-64)=i by omega]
def k_rDivide{a b:Nat}(hb:0<b)(ha:a<340282366920938463463374607431768211456)(hb2:b<340282366920938463463374607431768211456):∀i:Nat,i<=128->ze6 (wd a) (wd b) (wd (a / 2 ^ i / b)) (wd (a / 2 ^ i % b)) ((i:Int)-1)=some (zjX (wd (a / b),wd (a % b))):=by
 intro i
 induction i with
 |zero=>intro _;refine zvI ?_;rw[decide_eq_false (by omega),zaB,Nat.pow_zero,Nat.div_one];rfl
 |succ i ih =>
   intro hi;have ih:=ih (by omega);have ei:((i+1:Nat):Int)-1=(i:Int):=by omega
   rw[ei];have bs:=bit_step a i;have hd:a / 2 ^ i<=a:=zb5 _ _
   have key:rnd (wd a) (wd b) (wd (a / 2 ^ (i+1) / b)) (wd (a / 2 ^ (i+1) % b)) (i:Int) ((a / 2 ^ i % 2:Nat):Int)=some (zjX (wd (a / b),wd (a % b))):=by refine rnd_ok hb hb2 (by omega) (by omega) ?_;rw[<-bs,w6Q];exact ih
   refine zvI ?_;have etm:(i:Int).tmod 64=((i % 64:Nat):Int):=rfl;rw[decide_eq_true (by omega),zaM,cPQ,etm,wuN' (by omega),cPQ];by_cases h:64<=i
   . have ew:wu64 (w64 ((i:Int)-64))=((i-64:Nat):Int):=by rw[w6Q,zu0 (by omega) (by omega)];omega
     rw[decide_eq_true (by omega),zaM,ew,cPQ];refine t1010 ?_;have e:=bit_and (a / 18446744073709551616) (by omega) (wu64 (w64 ((i:Int)-64))) (i-64) (by rw[ew,zae];omega);rw[high_bit a i h]at e;have e':wu64 (↑(((wd a).Hi.fdiv (2 ^ Min.min (wu64 (w64 ((i:Int)-64))).toNat 64) % Int.ofNat (2 ^ 64)).toNat &&& (1 % Int.ofNat (2 ^ 64)).toNat):Int)=((a / 2 ^ i % 2:Nat):Int):=e;rw[e'];exact key
   . rw[decide_eq_false (by omega),zaB];refine t1010v1 ?_;have ew:wu64 ((i:Int).tmod 64)=((i:Nat):Int):=by rw[etm,wuN' (by omega)];omega
     have e:=bit_and (a % 18446744073709551616) (by omega) (wu64 ((i:Int).tmod 64)) i (by rw[ew,zae];omega);rw[low_bit a i (by omega)]at e;have e':wu64 (↑(((wd a).Lo.fdiv (2 ^ Min.min (wu64 ((i:Int).tmod 64)).toNat 64) % Int.ofNat (2 ^ 64)).toNat &&& (1 % Int.ofNat (2 ^ 64)).toNat):Int)=((a / 2 ^ i % 2:Nat):Int):=e;rw[e'];exact key
def zs3(a b:Nat)(hb:0<b)(ha:a<340282366920938463463374607431768211456)(hb2:b<340282366920938463463374607431768211456):cw 219 [.agg (zaD (wd a)),.agg (zaD (wd b))] []=some (zjX (wd (a / b),wd (a % b))):=by
 refine zFW ?_
 have hk:ze6 (wd a) (wd b) ⟨0,0⟩ ⟨0,0⟩ 127=some (zjX (wd (a / b),wd (a % b))):=by have h:=k_rDivide hb ha hb2 128 (by omega);have e0:a / 2 ^ 128=0:=zdV ha;rw[e0,Nat.zero_div,Nat.zero_mod]at h;exact h
 by_cases h1:a / 18446744073709551616=0
 . have b1:((wd a).Hi==0)=true:=by show(((a / 18446744073709551616:Nat):Int)==0)=true;rw[h1];rfl
   rw[b1,zaM];by_cases h2:b / 18446744073709551616=0
   . have b2:((wd b).Hi==0)=true:=by show(((b / 18446744073709551616:Nat):Int)==0)=true;rw[h2];rfl
     have ea:a % 18446744073709551616=a:=by omega
     have eb:b % 18446744073709551616=b:=by omega
     have la:(wd a).Lo=(a:Int):=by show((a % 18446744073709551616:Nat):Int)=_;rw[ea]
     have lb:(wd b).Lo=(b:Int):=by show((b % 18446744073709551616:Nat):Int)=_;rw[eb]
     have hq:a / b<=a:=zb5 _ _;have hr:=zej a hb;rw[b2,zaM,la,lb,cPQ,cPQ];have t1:(a:Int).tdiv (b:Int)=((a / b:Nat):Int):=rfl;have t2:(a:Int).tmod (b:Int)=((a % b:Nat):Int):=rfl;rw[t1,t2,wuN' (by omega)]
     have w:∀n:Nat,n<18446744073709551616->(⟨0,(n:Int)⟩:za7)=wd n:=by intro n hn;unfold wd;rw[zdV hn,zc6 hn];rfl
     rw[w _ (by omega),w _ (by omega)];rfl
   .have b2:((wd b).Hi==0)=false:=beq_false_of_ne (by show((b / 18446744073709551616:Nat):Int)≠0;omega);rw[b2,zaB];exact hk
 .have b1:((wd a).Hi==0)=false:=beq_false_of_ne (by show((a / 18446744073709551616:Nat):Int)≠0;omega);rw[b1,zaB];exact hk
end Go.Proofs.YtcpnffbcljkbkaaGreatDoor
namespace Go.Proofs.YtcpnffbcljkbkaaGreatDoor
open Go.Ab Go.PureDiv
set_option maxRecDepth 20000
def wd_zero(b:Nat):((wd b).Hi==0&&((wd b).Lo==0&&true))=decide (b=0):=by
 show((((b / 18446744073709551616:Nat):Int)==0)&&((((b % 18446744073709551616:Nat):Int)==0)&&true))=decide (b=0);by_cases h:b=0
 .subst h;rfl
 . rw[decide_eq_false h];by_cases h1:b / 18446744073709551616=0
   .rw[beq_false_of_ne (by omega:((b % 18446744073709551616:Nat):Int)≠0)];simp
   .rw[beq_false_of_ne (by omega:((b / 18446744073709551616:Nat):Int)≠0)];rfl
def k_rDivisor:∀(N b a:Nat),b<=N->a<340282366920938463463374607431768211456->b<340282366920938463463374607431768211456->zlL (wd a) (wd b)=some (ze3 (wd (Nat.gcd a b))):=by
 intro N
 induction N with
 |zero=>intro b a hN _ _;refine zun ?_;rw[wd_zero,decide_eq_true (by omega),zaS,zaB,show b=0 by omega,Nat.gcd_zero_right];rfl
 |succ N ih =>
   intro b a hN ha hb;refine zun ?_;rw[wd_zero];by_cases h:b=0
   .rw[decide_eq_true h,zaS,zaB,h,Nat.gcd_zero_right];rfl
   .have hr:=zej a (by omega:0<b);rw[decide_eq_false h,zbe,zaM,zs3 a b (by omega) ha hb,ziL,ih (a % b) b (by omega) hb (by omega),zi3 a b,Nat.gcd_rec b a,zi3]
def zyq(a b:Nat)(ha:a<340282366920938463463374607431768211456)(hb:b<340282366920938463463374607431768211456):cw 200 [.agg (zaD (wd a)),.agg (zaD (wd b))] []=some (ze3 (wd (Nat.gcd a b))):=
 zEM (k_rDivisor b b a (zav _) ha hb)
def redR(s:Bool)(n d:Nat):zbr×Int:=
 if n / Nat.gcd n d<=1152921504606846976/\d / Nat.gcd n d<=1152921504606846976 then
  (if s then(⟨-((n / Nat.gcd n d:Nat):Int),((d / Nat.gcd n d:Nat):Int)⟩,0)else(⟨((n / Nat.gcd n d:Nat):Int),((d / Nat.gcd n d:Nat):Int)⟩,0))
 else(⟨0,0⟩,6)
def zs4(s:Bool)(n d:Nat)(hd:0<d)(hn:n<340282366920938463463374607431768211456)(hd2:d<340282366920938463463374607431768211456):cw 221 [B s,.agg (zaD (wd n)),.agg (zaD (wd d))] []=some (zda (redR s n d)):=by
 have hg:0<Nat.gcd n d:=Nat.gcd_pos_of_pos_right _ hd;have hg2:Nat.gcd n d<=d:=zhr hd (zeA n d);refine zFX ?_;rw[zyq n d hn hd2,zcz,zs3 n _ hg hn (by omega),ziL,zs3 d _ hg hd2 (by omega),ziL];unfold redR;generalize n / Nat.gcd n d=x;generalize d / Nat.gcd n d=y
 have lH:∀m:Nat,(0<(wd m).Hi)↔0<m / 18446744073709551616:=λm=>by show(0:Int)<((m / 18446744073709551616:Nat):Int)↔_;omega
 have lL:∀m:Nat,((1152921504606846976:Int)<(wd m).Lo)↔1152921504606846976<m % 18446744073709551616:=λm=>by show(1152921504606846976:Int)<((m % 18446744073709551616:Nat):Int)↔_;omega
 have lo:∀m:Nat,m<=1152921504606846976->(wd m).Lo=(m:Int):=λm h=>by show((m % 18446744073709551616:Nat):Int)=(m:Int);omega
 simp only[zhI];by_cases h1:0<x / 18446744073709551616
 .rw[if_pos ((lH x).2 h1),iNQ];rfl
 rw[if_neg (λc=>h1 ((lH x).1 c))];by_cases h2:0<y / 18446744073709551616
 .rw[if_pos ((lH y).2 h2),iNQ];rfl
 rw[if_neg (λc=>h2 ((lH y).1 c))];by_cases h3:1152921504606846976<x % 18446744073709551616
 .rw[if_pos ((lL x).2 h3),iNQ];rfl
 rw[if_neg (λc=>h3 ((lL x).1 c))];by_cases h4:1152921504606846976<y % 18446744073709551616
 .rw[if_pos ((lL y).2 h4),iNQ];rfl
 rw[if_neg (λc=>h4 ((lL y).1 c)),iPQ,lo x (by omega),lo y (by omega),w6Q (n:=(x:Int)),w6Q (n:=(y:Int))];cases s
 .rw[zaB];rfl
 .rw[zaM,w6Q,Int.zero_sub];rfl
set_option maxRecDepth 20000
def fitS(s:Bool)(x y:Nat):zbr×Int:=
 if x<=1152921504606846976/\y<=1152921504606846976 then
  (if s then(⟨-(x:Int),(y:Int)⟩,0)else(⟨(x:Int),(y:Int)⟩,0))
 else(⟨0,0⟩,6)
def redR_fit(s:Bool)(n d:Nat):redR s n d=fitS s (n / Nat.gcd n d) (d / Nat.gcd n d):=rfl
end Go.Proofs.YtcpnffbcljkbkaaGreatDoor
namespace Go.Proofs.YtcpnffbcljkbkaaGreatDoor
open Go.Ab
def brn_f{β:Type}{c:Bool}(h:c=false)(x y:Option β):brn c x y=y:=by subst h;rfl
abbrev U(n:Nat):AV:=.v (.int .u64 (n:Int))
def wuN{n:Nat}(h:n<18446744073709551616):wu64 (n:Int)=n:=zu0 (by omega) (by omega)
def c_Mul64(x y:Nat)(hx:x<18446744073709551616)(hy:y<18446744073709551616):cw 225 [U x,U y] []=some (zoG.enc (((x*y / 18446744073709551616:Nat):Int),((x*y % 18446744073709551616:Nat):Int))):=by
 refine zJT ?_;have h32:((2:Int) ^ Min.min (Int.toNat 32) 64)=((4294967296:Nat):Int):=by decide
 have hdiv:∀n:Nat,(n:Int).fdiv ((4294967296:Nat):Int)=((n / 4294967296:Nat):Int):=λn=>by rw[Int.fdiv_eq_ediv_of_nonneg _ (by omega)];rfl
 have hmask:∀n:Nat,n<18446744073709551616->((((n:Int) % Int.ofNat (2 ^ 64)).toNat &&& ((4294967295:Int) % Int.ofNat (2 ^ 64)).toNat:Nat):Int)=((n % 4294967296:Nat):Int):=λn hn=>by
  have e1:((n:Int) % Int.ofNat (2 ^ 64)).toNat=n:=by
   have:(Int.ofNat (2 ^ 64):Int)=18446744073709551616:=by decide
   rw[this];omega
  have e2:((4294967295:Int) % Int.ofNat (2 ^ 64)).toNat=2 ^ 32-1:=by decide
  rw[e1,e2,zfY]
 obtain⟨m1,m2,m3,m4⟩:=Go.Lib.mul64_hi x y hx hy
 have hlo:wu64 ((x:Int)*(y:Int))=((x*y % 18446744073709551616:Nat):Int):=by
  have e:(x:Int)*(y:Int)=((x*y:Nat):Int):=by simp
  rw[e];generalize x*y=m;simp only[zK,wu64,IntKind.wrap,IntKind.bits,IntKind.signed,show((2:Int) ^ 64)=18446744073709551616 from rfl,zeW];omega
 have hx0:x % 4294967296<4294967296:=zej _ (by omega);have hy0:y % 4294967296<4294967296:=zej _ (by omega);have p1:=Go.Lib.half_mul_le (a:=x / 4294967296) (b:=y % 4294967296) (by omega) (by omega);have p2:=Go.Lib.half_mul_le (a:=x % 4294967296) (b:=y / 4294967296) (by omega) (by omega);have p3:=Go.Lib.half_mul_le (a:=x / 4294967296) (b:=y / 4294967296) (by omega) (by omega);have hM:∀a b:Nat,((a:Int)*(b:Int))=((a*b:Nat):Int):=λa b=>by push_cast;rfl
 have hA:∀a b:Nat,((a:Int)+(b:Int))=((a+b:Nat):Int):=λa b=>by push_cast;rfl
 rw[zam (by decide),zam (by decide),zam (by decide),zam (by decide),zam (by decide),hlo,h32];rw[hdiv x,hdiv y,hmask x hx,hmask y hy,wuN (n:=x % 4294967296) (by omega),wuN (n:=y % 4294967296) (by omega)];generalize hx1:x / 4294967296=x1 at *;generalize hy1:y / 4294967296=y1 at *;generalize x % 4294967296=x0 at *;generalize y % 4294967296=y0 at *;rw[hM x0 y0,wuN m1,hdiv,hM x1 y0,wuN (n:=x1*y0) (by omega),hA,wuN m2,hmask _ m2,hM x0 y1,wuN (n:=x0*y1) (by omega),wuN (n:=_ % 4294967296) (by omega),hA,wuN m3,hdiv,hdiv,hM x1 y1,wuN (n:=x1*y1) (by omega),hA,wuN (by omega),hA,wuN (by omega),m4];rfl
def cmpZ(a b:Int):Int:=if a<b then -1 else if b<a then 1 else 0
def cmpZ_lt{a b:Int}(h:a<b):cmpZ a b=-1:=if_pos h
def cmpZ_gt{a b:Int}(h:b<a):cmpZ a b=1:=by unfold cmpZ;rw[iNQ,if_pos h]
def cmpZ_eq{a b:Int}(h:a=b):cmpZ a b=0:=by unfold cmpZ;rw[iNQ,iNQ]
def sgn(s:Bool)(n:Nat):Int:=if s then -(n:Int)else n
end Go.Proofs.YtcpnffbcljkbkaaGreatDoor
namespace Go.Proofs.YtcpnffbcljkbkaaGreatDoor
open Go.Ab Go.PureDiv
set_option maxRecDepth 20000
def zlF{n:Nat}(h:n<18446744073709551616):(⟨0,(n:Int)⟩:za7)=wd n:=by unfold wd;rw[zdV h,zc6 h];rfl
set_option maxRecDepth 20000
def newR(a b:Int):zbr×Int:=if b=0 then(⟨0,0⟩,2)else redR (!decide (a<0)==decide (b<0)) a.natAbs b.natAbs
def zf3(n:Int)(h1:-9223372036854775808<=n)(h2:n<9223372036854775808):cw 201 [I n] []=some (zvD (n.natAbs:Int)):=by
 refine zJZ ?_;rw[zhI];by_cases h:n<0
 . have e:wu64 (wu64 (w64 (0-w64 (n+1)))+1)=(n.natAbs:Int):=by rw[w6Q (n:=n+1),w6Q,zu0 (n:=0-(n+1)) (by omega) (by omega),zu0 (by omega) (by omega)];omega
   rw[if_pos h,e];rfl
 . have e:wu64 n=(n.natAbs:Int):=by rw[zu0 (by omega) (by omega)];omega
   rw[if_neg h,e];rfl
def c_rNewG(a b:Int)(a1:-9223372036854775808<=a)(a2:a<9223372036854775808)(b1:-9223372036854775808<=b)(b2:b<9223372036854775808):cw 212 [I a,I b] []=some (zda (newR a b)):=by
 refine zLa ?_;unfold newR;by_cases h:b=0
 .rw[if_pos h,h,show(((0:Int))==0)=true from rfl,zaM];rfl
 .have hr:=zs4 (!decide (a<0)==decide (b<0)) a.natAbs b.natAbs (by omega) (by omega) (by omega);rw[<-zlF (n:=a.natAbs) (by omega),<-zlF (n:=b.natAbs) (by omega)]at hr;rw[if_neg h,beq_false_of_ne h,zaB,zf3 a a1 a2,zcm,zf3 b b1 b2,zcm,hr,zcN];rfl
set_option maxRecDepth 20000
def zhs(x y:Nat)(hx:x<18446744073709551616)(hy:y<18446744073709551616):cw 210 [.v (.int .u64 (x:Int)),.v (.int .u64 (y:Int))] []=some (ze3 (wd (x*y))):=by refine zEN ?_;have h:cw 225 [AV.v (.int .u64 (x:Int)),AV.v (.int .u64 (y:Int))] []=some (zvC (((x*y / 18446744073709551616:Nat):Int),((x*y % 18446744073709551616:Nat):Int))):=c_Mul64 x y hx hy;rw[h,zDq];rfl
def c_rPlusG(a b:Nat)(h:a+b<340282366920938463463374607431768211456):cw 222 [.agg (zaD (wd a)),.agg (zaD (wd b))] []=some (ze3 (wd (a+b))):=by
 refine zJY ?_;have t0:Int.toNat 0=0:=rfl;have t1:Int.toNat 1=1:=rfl;have p64:(2:Nat) ^ 64=18446744073709551616:=rfl;simp only[wd,zae,t0,t1,p64];by_cases c:(a % 18446744073709551616+b % 18446744073709551616+0) / 18446744073709551616=0
 . have e1:(a / 18446744073709551616+b / 18446744073709551616+0) % 18446744073709551616=(a+b) / 18446744073709551616:=by omega
   have e2:(a % 18446744073709551616+b % 18446744073709551616+0) % 18446744073709551616=(a+b) % 18446744073709551616:=by omega
   rw[c,show((Int.ofNat 0)==0)=true from rfl,zaM,e1,e2];rfl
 . have c1:(a % 18446744073709551616+b % 18446744073709551616+0) / 18446744073709551616=1:=by omega
   have e1:(a / 18446744073709551616+b / 18446744073709551616+1) % 18446744073709551616=(a+b) / 18446744073709551616:=by omega
   have e2:(a % 18446744073709551616+b % 18446744073709551616+0) % 18446744073709551616=(a+b) % 18446744073709551616:=by omega
   rw[c1,show((Int.ofNat 1)==0)=false from rfl,zaB,show((Int.ofNat 1)==1)=true from rfl,zaM,e1,e2];rfl
def totR(p:Bool)(a:Nat)(q:Bool)(b:Nat):Bool×Nat:=if p=q then(p,a+b)else if b<=a then(p,a-b)else(q,b-a)
def zDp(p:Bool)(a:Nat)(q:Bool)(b:Nat)(h:a+b<340282366920938463463374607431768211456):cw 209 [B p,.agg (zaD (wd a)),B q,.agg (zaD (wd b))] []=some (ztY ((totR p a q b).1,wd (totR p a q b).2)):=by
 refine zIi ?_;unfold totR;by_cases hs:p=q
 .rw[if_pos hs,hs,beq_self_eq_true,zaM,c_rPlusG a b h,zcz];rfl
 . rw[if_neg hs,beq_false_of_ne hs,zaB,c_Order,zcj];by_cases hc:b<=a
   . have e:(a+340282366920938463463374607431768211456-b) % 340282366920938463463374607431768211456=a-b:=by omega
     rw[if_pos hc,decide_eq_true (show(0:Int)<=ord3 a b by unfold ord3;rw[if_neg (show¬a<b by omega)];split<;>omega),zaM,c_Minus a b (by omega) (by omega),zcz,e];rfl
   . have e:(b+340282366920938463463374607431768211456-a) % 340282366920938463463374607431768211456=b-a:=by omega
     rw[if_neg hc,decide_eq_false (show¬(0:Int)<=ord3 a b by unfold ord3;rw[if_pos (show a<b by omega)];omega),zaB,c_Minus b a (by omega) (by omega),zcz,e];rfl
set_option maxRecDepth 20000
def VR(r:zbr):Prop:=1<=r.Z/\r.Z<=1152921504606846976/\-1152921504606846976<=r.xf/\r.xf<=1152921504606846976/\Nat.gcd r.xf.natAbs r.Z.natAbs=1
instance(r:zbr):Decidable (VR r):=by unfold VR;infer_instance
def zmr(r:zbr):cw 177 [.agg (zaL r)] []=some (zao (decide (VR r))):=by
 refine zIg ?_;simp only[zhI];have no:¬VR r->some (B false,([]:Mem))=some (zao (decide (VR r))):=λh=>by rw[decide_eq_false h];rfl
 by_cases h1:r.Z<1
 .rw[if_pos h1];exact no (λh=>by have:=h.1;omega)
 rw[if_neg h1];by_cases h2:1152921504606846976<r.Z
 .rw[if_pos h2];exact no (λh=>by have:=h.2.1;omega)
 rw[if_neg h2];by_cases h3:r.xf < -1152921504606846976
 .rw[if_pos h3];exact no (λh=>by have:=h.2.2.1;omega)
 rw[if_neg h3];by_cases h4:1152921504606846976<r.xf
 .rw[if_pos h4];exact no (λh=>by have:=h.2.2.2.1;omega)
 rw[if_neg h4];rw[zf3 r.xf (by omega) (by omega),zcm,zf3 r.Z (by omega) (by omega),zcm,zlF (by omega),zlF (by omega),zyq _ _ (by omega) (by omega),zcz];have hg:Nat.gcd r.xf.natAbs r.Z.natAbs<=r.Z.natAbs:=zhr (by omega) (zeA _ _);rw[<-zlF (n:=Nat.gcd r.xf.natAbs r.Z.natAbs) (by omega)];by_cases h5:Nat.gcd r.xf.natAbs r.Z.natAbs=1
 . have hv:VR r:=⟨by omega,by omega,by omega,by omega,h5⟩
   rw[h5,decide_eq_true hv];rfl
 .have hb:(((Nat.gcd r.xf.natAbs r.Z.natAbs:Nat):Int)==1)=false:=beq_false_of_ne (by omega);show some (B ((0:Int)==0&&(((Nat.gcd r.xf.natAbs r.Z.natAbs:Nat):Int)==1&&true)),[])=_;rw[hb];exact no (λh=>h5 h.2.2.2.2)
set_option maxRecDepth 20000
def mulR(a b:zbr):zbr×Int:=if VR a/\VR b then redR (!decide (a.xf<0)==decide (b.xf<0)) (a.xf.natAbs*b.xf.natAbs) (a.Z.natAbs*b.Z.natAbs)else(⟨0,0⟩,1)
def le120{x y:Nat}(hx:x<=1152921504606846976)(hy:y<=1152921504606846976):x*y<=1329227995784915872903807060280344576:=Nat.mul_le_mul hx hy
def c_rMulG(a b:zbr):cw 207 [.agg (zaL a),.agg (zaL b)] []=some (zda (mulR a b)):=by
 refine zK9 ?_;unfold mulR;rw[zmr,zaG];by_cases ha:VR a
 . rw[decide_eq_true ha,zaS,zaB,zmr,zaG];by_cases hb:VR b
   .have ha2:=ha;have hb2:=hb;obtain⟨p1,p2,p3,p4,_⟩:=ha2;obtain⟨r1,r2,r3,r4,_⟩:=hb2;have m1:=le120 (x:=a.xf.natAbs) (y:=b.xf.natAbs) (by omega) (by omega);have m2:=le120 (x:=a.Z.natAbs) (y:=b.Z.natAbs) (by omega) (by omega);have m3:0<a.Z.natAbs*b.Z.natAbs:=zgl (by omega) (by omega);rw[decide_eq_true hb,zaS,zaB,if_pos ⟨ha,hb⟩,zf3 a.xf (by omega) (by omega),zcm,zf3 b.xf (by omega) (by omega),zcm,zhs _ _ (by omega) (by omega),zcz,zf3 a.Z (by omega) (by omega),zcm,zf3 b.Z (by omega) (by omega),zcm,zhs _ _ (by omega) (by omega),zcz,zs4 _ _ _ m3 (by omega) (by omega),zcN];rfl
   .rw[decide_eq_false hb,zbe,zaM,if_neg (λh=>hb h.2)];rfl
 .rw[decide_eq_false ha,zbe,zaM,if_neg (λh=>ha h.1)];rfl
end Go.Proofs.YtcpnffbcljkbkaaGreatDoor
namespace Go.Pure
open Go.Ab
def add_steps(a b:Rat)(g:Nat)(hg:g=a.den.gcd b.den)(s:Int)(hs:s=a.num*((b.den / g:Nat):Int)+b.num*((a.den / g:Nat):Int))(c:Nat)(hc:c=s.natAbs.gcd g):(a+b).num=s / (c:Int)/\(a+b).den=(a.den / g)*(b.den / c):=by
 have hcg:c ∣ g:=hc▸zeA _ _;have hgb:g ∣ b.den:=hg▸zeA _ _;show(Rat.add a b).num=_/\(Rat.add a b).den=_
 delta Rat.add
 dsimp only;split
 . rename_i h1;have hg1:g=1:=by rw[hg];exact h1
   have hc1:c=1:=by rw[hg1]at hcg;exact Nat.dvd_one.1 hcg
   subst hc1;rw[hs,hg1];simp
 .simp only[Rat.maybeNormalize_eq,Int.divExact_eq_ediv,<-hg,<-hs,<-hc];exact⟨trivial,Nat.mul_div_assoc _ (Nat.dvd_trans hcg hgb)⟩
def mul_steps(a b:Rat):(a*b).num=a.num.tdiv (a.num.natAbs.gcd b.den:Nat)*b.num.tdiv (b.num.natAbs.gcd a.den:Nat)/\(a*b).den=(a.den / b.num.natAbs.gcd a.den)*(b.den / a.num.natAbs.gcd b.den):=by
 show(Rat.mul a b).num=_/\(Rat.mul a b).den=_
 delta Rat.mul
 simp only[Int.divExact_eq_tdiv,Nat.divExact_eq_div];trivial
def Bd(n d:Nat)(r:Rat):Prop:=r.num.natAbs<=2 ^ n/\r.den<=2 ^ d
def Bd.mono{n d n' d':Nat}{r:Rat}(h:Bd n d r)(h1:n<=n')(h2:d<=d'):Bd n' d' r:=
 ⟨za5 h.1 (zdX (by omega) h1),za5 h.2 (zdX (by omega) h2)⟩
def zrA{x y n m N:Nat}(hx:x<=2 ^ n)(hy:y<=2 ^ m)(h:n+m<=N):x*y<=2 ^ N:=
 za5 (Nat.mul_le_mul hx hy) (by rw[<-Nat.pow_add];exact zdX (by omega) h)
def zGc(s:Int)(c:Nat):(s / (c:Int)).natAbs<=s.natAbs:=by
 by_cases h:c=0
 .subst h;simp
 .have:=Int.natAbs_ediv_le_natAbs s c;exact this
def sum_le(a b:Rat){n d n' d' N:Nat}(ha:Bd n d a)(hb:Bd n' d' b)(h1:n+d'+1<=N)(h2:n'+d+1<=N)(g:Nat):a.num.natAbs*(b.den / g)<=2 ^ (N-1)/\b.num.natAbs*(a.den / g)<=2 ^ (N-1)/\(a.num*((b.den / g:Nat):Int)+b.num*((a.den / g:Nat):Int)).natAbs<=2 ^ N:=by
 have e1:a.num.natAbs*(b.den / g)<=2 ^ (N-1):=zrA ha.1 (za5 (zb5 _ _) hb.2) (by omega);have e2:b.num.natAbs*(a.den / g)<=2 ^ (N-1):=zrA hb.1 (za5 (zb5 _ _) ha.2) (by omega);refine⟨e1,e2,?_⟩;have e3:=Int.natAbs_add_le (a.num*((b.den / g:Nat):Int)) (b.num*((a.den / g:Nat):Int));rw[zh6,zh6,zdo,zdo]at e3
 have e4:2 ^ N=2 ^ (N-1)+2 ^ (N-1):=by
  have:N=(N-1)+1:=by omega
  conv=>lhs;rw[this,zi4]
  omega
 omega
def Bd.add{a b:Rat}{n d n' d' N D:Nat}(ha:Bd n d a)(hb:Bd n' d' b)(h1:n+d'+1<=N)(h2:n'+d+1<=N)(h3:d+d'<=D):Bd N D (a+b):=by
 obtain⟨e1,e2⟩:=add_steps a b _ rfl _ rfl _ rfl;refine⟨?_,?_⟩
 .rw[e1];exact za5 (zGc _ _) (sum_le a b ha hb h1 h2 _).2.2
 .rw[e2];exact zrA (za5 (zb5 _ _) ha.2) (za5 (zb5 _ _) hb.2) h3
def Bd.neg{a:Rat}{n d:Nat}(h:Bd n d a):Bd n d (-a):=⟨by show(-a.num).natAbs<=_;rw[Int.natAbs_neg];exact h.1,h.2⟩
def Bd.sub{a b:Rat}{n d n' d' N D:Nat}(ha:Bd n d a)(hb:Bd n' d' b)(h1:n+d'+1<=N)(h2:n'+d+1<=N)(h3:d+d'<=D):Bd N D (a-b):=by rw[Rat.sub_eq_add_neg];exact ha.add hb.neg h1 h2 h3
def Bd.mul{a b:Rat}{n d n' d' N D:Nat}(ha:Bd n d a)(hb:Bd n' d' b)(h1:n+n'<=N)(h3:d+d'<=D):Bd N D (a*b):=by
 obtain⟨e1,e2⟩:=mul_steps a b;refine⟨?_,?_⟩
 .rw[e1,zh6,Int.natAbs_tdiv,Int.natAbs_tdiv];exact zrA (za5 (zb5 _ _) ha.1) (za5 (zb5 _ _) hb.1) h1
 .rw[e2];exact zrA (za5 (zb5 _ _) ha.2) (za5 (zb5 _ _) hb.2) h3
def Bd.inv{a:Rat}{n d:Nat}(h:Bd n d a):Bd d n a⁻¹:=by
 refine⟨?_,?_⟩
 . rw[Rat.num_inv,zh6,zdo]
   have h1:a.num.sign.natAbs<=1:=by rw[Int.natAbs_sign];split<;>omega
   exact za5 (Nat.mul_le_mul h1 h.2) (by omega)
 . rw[Rat.den_inv];split
   .exact Nat.one_le_two_pow
   .exact h.1
end Go.Pure
namespace Go.Proofs.YtcpnffbcljkbkaaGreatDoor
open Go.Ab Go.Pure
def brn_nt{β:Type}(x y:Option β):brn (!true) x y=y:=rfl
def brn_nf{β:Type}(x y:Option β):brn (!false) x y=x:=rfl
def ofR(r:Rat):zbr:=⟨r.num,(r.den:Int)⟩
def ofR_inj{a b:Rat}(h:ofR a=ofR b):a=b:=by have h1:a.num=b.num:=congrArg zbr.xf h;have h2:(a.den:Int)=b.den:=congrArg zbr.Z h;exact Rat.ext h1 (by omega)
def oN(r:Rat):(ofR r).xf=r.num:=rfl
def oD(r:Rat):(ofR r).Z=(r.den:Int):=rfl
abbrev aR(r:Rat):AV:=.agg (zaL (ofR r))
def zyQ(s:Bool)(n:Nat):(sgn s n).natAbs=n:=by cases s<;>simp[sgn]
def sgn_of(n:Int):n=sgn (decide (n<0)) n.natAbs:=by
 by_cases h:n<0
 .rw[decide_eq_true h];simp only[sgn,if_true];omega
 .rw[decide_eq_false h];simp only[zK,sgn];omega
def zBE(s:Bool)(n m:Nat):sgn s (n*m)=sgn s n*m:=by cases s<;>simp[sgn,zhn]
def sgn_div(s:Bool)(n c:Nat)(h:c ∣ n):sgn s (n / c)=sgn s n / (c:Int):=by
 cases s
 .simp[sgn]
 .simp only[sgn,if_true];rw[Int.neg_ediv_of_dvd (Int.natCast_dvd_natCast.2 h)];rfl
end Go.Proofs.YtcpnffbcljkbkaaGreatDoor
namespace Go.Pure
open Go.Ab
abbrev Pt:=Rat×Rat
def sl(p q:Pt):Rat:=(q.2-p.2) / (q.1-p.1)
def ln(p:Pt)(s x:Rat):Rat:=p.2+(x-p.1)*s
def cv:List Pt->Rat->Rat
 |p::q::r,x=>if r=[]\/x<=q.1 then ln p (sl p q) x else cv (q::r) x
 |_,_=>0
def Asc(l:List Pt):Prop:=l.Pairwise λp q=>p.1<q.1/\p.2<q.2
def Fn:Pt->Rat->List (Pt×Rat)->Rat->Rat
 |a,s,[],x=>ln a s x
 |a,s,(b,t)::r,x=>if x<=b.1 then ln a s x else Fn b t r x
def On:Pt->Rat->List (Pt×Rat)->Prop
 |_,_,[]=>True
 |a,s,(b,t)::r=>a.1<b.1/\b.2=ln a s b.1/\On b t r
def lastB:Pt->Rat->List (Pt×Rat)->Pt×Rat
 |a,s,[]=>(a,s)
 |_,_,(b,t)::r=>lastB b t r
def End(a:Pt)(s:Rat)(L:List (Pt×Rat))(z:Pt):Prop:=(lastB a s L).1.1<z.1/\z.2=ln (lastB a s L).1 (lastB a s L).2 z.1
def sl_on{a z:Pt}{s:Rat}(h:a.1<z.1)(h2:z.2=ln a s z.1):sl a z=s:=by
 unfold sl;rw[h2];unfold ln;have:z.1-a.1≠0:=by grind
 grind
def ln_at(a:Pt)(s:Rat):ln a s a.1=a.2:=by unfold ln;grind
def ln_sl{a b:Pt}(h:a.1<b.1):b.2=ln a (sl a b) b.1:=by
 unfold ln sl;have:b.1-a.1≠0:=by grind
 grind
def ev_Fn:∀(L:List (Pt×Rat)) (a:Pt) (s:Rat) (z:Pt),On a s L->End a s L z->∀x,cv (a::(L.map (·.1)++[z])) x=Fn a s L x
 |[],a,s,z,_,he,x=>by show cv [a,z] x=ln a s x;unfold cv;rw[if_pos (.inl rfl),sl_on (a:=a) (z:=z) (s:=s) he.1 he.2]
 |(b,t)::r,a,s,z,ho,he,x=>by
   show cv (a::b::(r.map (·.1)++[z])) x=_;unfold cv Fn;have hne:(r.map (·.1)++[z])≠[]:=by simp
   rw[sl_on ho.1 ho.2.1,ev_Fn r b t z ho.2.2 he x];simp only[hne,false_or]
def sg:List Pt->List (Pt×Rat)
 |q::s::r=>(q,sl q s)::sg (s::r)
 |_=>[]
def sg_map:∀(r:List Pt) (q:Pt),(sg (q::r)).map (·.1)++[(q::r).getLast (by simp)]=q::r
 |[],q=>rfl
 |s::r,q=>by have ih:=sg_map r s;show q::((sg (s::r)).map (·.1)++[(q::s::r).getLast (by simp)])=_;rw[List.getLast_cons (by simp),ih]
def sg_on:∀(r:List Pt) (q p:Pt),Asc (p::q::r)->On p (sl p q) (sg (q::r))/\End p (sl p q) (sg (q::r)) ((q::r).getLast (by simp))
 |[],q,p,h=>by
   have h1:p.1<q.1:=by have:=(zeO.1 h).1 q (by simp);exact this.1
   exact⟨trivial,h1,ln_sl h1⟩
 |s::r,q,p,h=>by have h':=zeO.1 h;have h1:p.1<q.1:=(h'.1 q (by simp)).1;obtain⟨i1,i2⟩:=sg_on r s q h'.2;refine⟨⟨h1,ln_sl h1,i1⟩,?_⟩;rw[List.getLast_cons (by simp)];exact i2
def ev_sg(p q:Pt)(r:List Pt)(h:Asc (p::q::r))(x:Rat):cv (p::q::r) x=Fn p (sl p q) (sg (q::r)) x:=by
 obtain⟨h1,h2⟩:=sg_on r q p h;have:=ev_Fn _ _ _ _ h1 h2 x
 rwa[sg_map]at this
def sl_pos{p q:Pt}(h1:p.1<q.1)(h2:p.2<q.2):0<sl p q:=by unfold sl;rw[Rat.div_def];exact Rat.mul_pos (by grind) (Rat.inv_pos.2 (by grind))
def Fn_at:∀(L:List (Pt×Rat)) (a:Pt) (s:Rat),On a s L->Fn a s L a.1=a.2
 |[],a,s,_=>ln_at a s
 |(b,t)::r,a,s,h=>by unfold Fn;rw[if_pos (by have:=h.1;grind),ln_at]
def zD4:∀(L:List (Pt×Rat)) (a:Pt) (s:Rat),On a s L->∀b∈L,Fn a s L b.1.1=b.1.2
 |[],_,_,_,_,hb=>by cases hb
 |(b,t)::r,a,s,h,c,hc=>by
   unfold Fn;rcases zat.1 hc with hc|hc
   .rw[hc,if_pos (by grind)];exact h.2.1.symm
   . have:∀(r:List (Pt×Rat)) (b:Pt) (t:Rat),On b t r->∀c∈r,b.1<c.1.1:=by
      intro r
      induction r with
      |nil=>intro b t _ c hc;cases hc
      |cons d r ih =>
        intro b t h c hc;obtain⟨d,u⟩:=d;rcases zat.1 hc with hc|hc
        .rw[hc];exact h.1
        .have:=ih d u h.2.2 c hc;have:=h.1;grind
     have h1:=this r b t h.2.2 c hc;rw[if_neg (by grind)];exact zD4 r b t h.2.2 c hc
def Fn_end:∀(L:List (Pt×Rat)) (a:Pt) (s:Rat) (z:Pt),On a s L->End a s L z->a.1<z.1/\Fn a s L z.1=z.2
 |[],a,s,z,_,he=>⟨he.1,he.2.symm⟩
 |(b,t)::r,a,s,z,ho,he=>by obtain⟨h1,h2⟩:=Fn_end r b t z ho.2.2 he;have:=ho.1;refine⟨by grind,?_⟩;unfold Fn;rw[if_neg (by grind)];exact h2
def ev_through{l:List Pt}(h:Asc l)(hl:2<=l.length):∀p∈l,cv l p.1=p.2:=by
 match l,hl with
 |p::q::r,_ =>
   obtain⟨h1,h2⟩:=sg_on r q p h;intro b hb;rw[ev_sg p q r h];rcases zat.1 hb with hb|hb
   .rw[hb];exact Fn_at _ _ _ h1
   . rw[<-sg_map r q]at hb;rcases zaX.1 hb with hb|hb
     .obtain⟨c,hc,e⟩:=zbf.1 hb;rw[<-e];exact zD4 _ _ _ h1 c hc
     .rw[zbs.1 hb];exact(Fn_end _ _ _ _ h1 h2).2
def ev_at:∀(l:List Pt) (i:Nat) (x:Rat) (p q:Pt),Asc l->l[i]?=some p->l[i+1]?=some q->(i=0\/p.1<x)->(i+2=l.length\/x<=q.1)->cv l x=ln p (sl p q) x
 |[],_,_,_,_,_,hp,_,_,_=>by simp at hp
 |[_],_,_,_,_,_,_,hq,_,_=>by simp at hq
 |a::b::r,0,x,p,q,ha,hp,hq,h1,h2=>by
   simp only[zbI,zaf]at hp;simp only[zdD,zbI,zaf]at hq;subst hp;subst hq;unfold cv;rw[if_pos];rcases h2 with h2|h2
   .left;simp at h2;exact h2
   .exact .inr h2
 |a::b::r,i+1,x,p,q,ha,hp,hq,h1,h2=>by
   have hp':(b::r)[i]?=some p:=by simpa using hp
   have hq':(b::r)[i+1]?=some q:=by simpa using hq
   have ha':=(zeO.1 ha).2;have hlen:i+1<(b::r).length:=(zal.1 hq').1
   have hpx:p.1<x:=by rcases h1 with h1|h1;· omega
                      .exact h1
   have hb:b.1<x:=by
    have hm:p∈b::r:=zau hp';rcases zat.1 hm with hm|hm
    .rw[<-hm];exact hpx
    .have:=((zeO.1 ha').1 p hm).1;grind
   have hr:r≠[]:=by intro h;subst h;simp at hlen
   unfold cv;rw[if_neg (by rintro(h|h);exact hr h;grind)];refine ev_at (b::r) i x p q ha' hp' hq' (.inr hpx) ?_;rcases h2 with h2|h2
   .left;simp at h2 ⊢;omega
   .exact .inr h2
def bs:Rat->List (Pt×Rat)->List (Pt×Rat)
 |_,[]=>[]
 |s,(b,t)::r=>if t=s then bs s r else(b,t)::bs t r
def lt1(x:Rat):x<x+1:=by grind
end Go.Pure
namespace Go.Pure
open Go.Ab
def seg:∀(l:List Pt) (x:Rat),2<=l.length->∃(i:Nat) (p q:Pt),l[i]?=some p/\l[i+1]?=some q/\(i=0\/p.1<x)/\(i+2=l.length\/x<=q.1)
 |[],_,h=>by simp at h
 |[_],_,h=>by simp at h
 |[p,q],x,_=>⟨0,p,q,rfl,rfl,.inl rfl,.inl rfl⟩
 |p::q::r::l,x,_=>by
   by_cases h:x<=q.1
   .exact⟨0,p,q,rfl,rfl,.inl rfl,.inr h⟩
   . obtain⟨i,a,b,h1,h2,h3,h4⟩:=seg (q::r::l) x (by simp);refine⟨i+1,a,b,by simpa using h1,by simpa using h2,.inr ?_,?_⟩
     . rcases h3 with h3|h3
       .subst h3;simp at h1;rw[<-h1];grind
       .exact h3
     . rcases h4 with h4|h4
       .left;simp at h4 ⊢;omega
       .exact .inr h4
def ex(l:List Pt):List Pt:=l.map λp=>(p.2,p.1)
def zDT{l:List Pt}(h:Asc l){i:Nat}{p q:Pt}(hp:l[i]?=some p)(hq:l[i+1]?=some q):p.1<q.1/\p.2<q.2:=by obtain⟨h1,e1⟩:=zal.1 hp;obtain⟨h2,e2⟩:=zal.1 hq;have:=zf2.1 h i (i+1) h1 h2 (by omega);rw[e1,e2]at this;exact this
def Inner(l:List Pt)(y:Rat):Prop:=∃(i:Nat) (p:Pt),1<=i/\i+1<l.length/\l[i]?=some p/\p.1=y
def ev_at'{l:List Pt}{i:Nat}{x:Rat}{p q:Pt}(h:Asc l)(hl:2<=l.length)(hp:l[i]?=some p)(hq:l[i+1]?=some q)(h1:i=0\/p.1<=x)(h2:i+2=l.length\/x<=q.1):cv l x=ln p (sl p q) x:=by
 by_cases he:x=p.1
 .rw[he,ev_through h hl p (zau hp),ln_at]
 . refine ev_at l i x p q h hp hq ?_ h2;rcases h1 with h1|h1
   .exact .inl h1
   .exact .inr (by grind)
def flat{l:List Pt}(h:Asc l)(hl:2<=l.length){u v:Rat}(huv:u<v)(hn:∀y,Inner l y->¬(u<y/\y<v)):∃(p:Pt) (s:Rat),0<s/\∀x,u<=x->x<=v->cv l x=ln p s x:=by
 obtain⟨i,p,q,hp,hq,h1,h2⟩:=seg l ((u+v) / 2) hl;have hlen:i+1<l.length:=(zal.1 hq).1;obtain⟨a1,a2⟩:=zDT h hp hq;refine⟨p,sl p q,sl_pos a1 a2,λx hx1 hx2=>ev_at' h hl hp hq ?_ ?_⟩
 . rcases h1 with h1|h1
   .exact .inl h1
   . by_cases h0:i=0
     .exact .inl h0
     . right;have:=hn p.1 ⟨i,p,by omega,hlen,hp,rfl⟩
       grind
 . by_cases hz:i+2=l.length
   .exact .inl hz
   . right;have:=hn q.1 ⟨i+1,q,by omega,by omega,hq,rfl⟩;rcases h2 with h2|h2
     .exact absurd h2 hz
     .grind
section
variable{f g:List Pt}{xs:List Rat}(hf:Asc f)(hf2:2<=f.length)(hg:Asc g)(hg2:2<=g.length)
end
def Fit(r:Rat):Prop:=r.num.natAbs<=1152921504606846976/\r.den<=1152921504606846976
instance(r:Rat):Decidable (Fit r):=by unfold Fit;infer_instance
def pc:List Pt->Rat->Pt×Pt
 |p::q::r,x=>if r=[]\/x<=q.1 then(p,q)else pc (q::r) x
 |_,_=>((0,0),(0,0))
def SlF(p q:Pt):Prop:=Fit (q.2-p.2)/\Fit (q.1-p.1)/\Fit (sl p q)
def LnF(p q:Pt)(x:Rat):Prop:=SlF p q/\Fit (x-p.1)/\Fit ((x-p.1)*sl p q)/\Fit (ln p (sl p q) x)
def EvP(l:List Pt)(x:Rat):Prop:=LnF (pc l x).1 (pc l x).2 x
def AllF(l:List Pt):Prop:=∀p∈l,Fit p.1/\Fit p.2
def cv_pc:∀(l:List Pt) (x:Rat),2<=l.length->cv l x=ln (pc l x).1 (sl (pc l x).1 (pc l x).2) x
 |[],_,h=>by simp at h
 |[_],_,h=>by simp at h
 |p::q::r,x,_=>by
   unfold cv pc;by_cases h:r=[]\/x<=q.1
   .rw[if_pos h,if_pos h]
   . rw[if_neg h,if_neg h];refine cv_pc (q::r) x ?_
     cases r with
     |nil=>exact absurd (.inl rfl) h
     |cons s r=>simp
def pc_at:∀(l:List Pt) (i:Nat) (x:Rat) (p q:Pt),Asc l->l[i]?=some p->l[i+1]?=some q->(i=0\/p.1<x)->(i+2=l.length\/x<=q.1)->pc l x=(p,q)
 |[],_,_,_,_,_,hp,_,_,_=>by simp at hp
 |[_],_,_,_,_,_,_,hq,_,_=>by simp at hq
 |a::b::r,0,x,p,q,ha,hp,hq,h1,h2=>by
   simp only[zbI,zaf]at hp;simp only[zdD,zbI,zaf]at hq;subst hp;subst hq;unfold pc;rw[if_pos];rcases h2 with h2|h2
   .left;simp at h2;exact h2
   .exact .inr h2
 |a::b::r,i+1,x,p,q,ha,hp,hq,h1,h2=>by
   have hp':(b::r)[i]?=some p:=by simpa using hp
   have hq':(b::r)[i+1]?=some q:=by simpa using hq
   have ha':=(zeO.1 ha).2;have hlen:i+1<(b::r).length:=(zal.1 hq').1
   have hpx:p.1<x:=by rcases h1 with h1|h1;· omega
                      .exact h1
   have hb:b.1<x:=by
    have hm:p∈b::r:=zau hp';rcases zat.1 hm with hm|hm
    .rw[<-hm];exact hpx
    .have:=((zeO.1 ha').1 p hm).1;grind
   have hr:r≠[]:=by intro h;subst h;simp at hlen
   unfold pc;rw[if_neg (by rintro(h|h);exact hr h;grind)];refine pc_at (b::r) i x p q ha' hp' hq' (.inr hpx) ?_;rcases h2 with h2|h2
   .left;simp at h2 ⊢;omega
   .exact .inr h2
def EvP.val{l:List Pt}{x:Rat}(hl:2<=l.length)(h:EvP l x):Fit (cv l x):=by rw[cv_pc l x hl];exact h.2.2.2
end Go.Pure
namespace Go.Proofs.YtcpnffbcljkbkaaGreatDoor
open Go.Ab Go.Pure Go.PureDiv
set_option maxRecDepth 20000
def _root_.Go.Pure.Fit.bd{r:Rat}(h:Fit r):Bd 60 60 r:=h
def fit_VR{r:Rat}(h:Fit r):VR (ofR r):=by
 have p:=r.den_pos;refine⟨?_,?_,?_,?_,?_⟩<;>simp only[oN,oD]
 .omega
 .have:=h.2;omega
 .have:=h.1;omega
 .have:=h.1;omega
 .exact r.reduced
def VR_fit{g:zbr}(h:VR g):∃r,Fit r/\g=ofR r:=by
 obtain⟨h1,h2,h3,h4,h5⟩:=h;refine⟨⟨g.xf,g.Z.natAbs,by omega,h5⟩,⟨by show g.xf.natAbs<=_;omega,by show g.Z.natAbs<=_;omega⟩,?_⟩;show g=⟨g.xf,((g.Z.natAbs:Nat):Int)⟩;have:((g.Z.natAbs:Nat):Int)=g.Z:=by omega
 rw[this]
def fitR(r:Rat):zbr×Int:=if Fit r then(ofR r,0)else(⟨0,0⟩,6)
def fitS_eq(s:Bool)(x y:Nat)(r:Rat)(h1:sgn s x=r.num)(h2:y=r.den):fitS s x y=fitR r:=by
 have hx:x=r.num.natAbs:=by rw[<-h1,zyQ]
 have e1:¬(s=true)->((x:Nat):Int)=r.num:=λh=>by
  rw[<-h1];cases s
  .rfl
  .exact absurd rfl h
 have e2:s=true->-((x:Nat):Int)=r.num:=λh=>by rw[<-h1,h];rfl
 have hiff:(x<=1152921504606846976/\y<=1152921504606846976)↔Fit r:=by rw[hx,h2];exact Iff.rfl
 unfold fitS fitR;by_cases hf:Fit r
 . rw[if_pos (hiff.2 hf),if_pos hf];by_cases hs:s=true
   .rw[if_pos hs,e2 hs,h2];rfl
   .rw[if_neg hs,e1 hs,h2];rfl
 .rw[if_neg (λh=>hf (hiff.1 h)),if_neg hf]
def zBB(s:Bool)(n d:Nat)(hd:0<d):redR s n d=fitR (mkRat (sgn s n) d):=by
 rw[redR_fit];have hne:d≠0:=by omega
 refine fitS_eq _ _ _ _ ?_ ?_
 .rw[Rat.num_mkRat,if_neg hne,zyQ,zi3,sgn_div _ _ _ (zeA _ _)]
 .rw[Rat.den_mkRat,if_neg hne,zyQ,zi3]
def sgn_mul2(a b:Int):sgn (!decide (a<0)==decide (b<0)) (a.natAbs*b.natAbs)=a*b:=by
 conv=>rhs;rw[sgn_of a,sgn_of b]
 by_cases q1:a<0<;>by_cases q2:b<0<;>simp[q1,q2,sgn,zhn,Int.mul_neg]
def mk_mul(a b:Rat):mkRat (a.num*b.num) (a.den*b.den)=a*b:=by rw[<-Rat.mkRat_mul_mkRat,zh8,zh8]
def c_rMulF(a b:Rat)(ha:Fit a)(hb:Fit b):cw 207 [aR a,aR b] []=some (zda (fitR (a*b))):=by
 have h:=c_rMulG (ofR a) (ofR b);have p:=zgl a.den_pos b.den_pos
 have e:mulR (ofR a) (ofR b)=fitR (a*b):=by unfold mulR;rw[if_pos ⟨fit_VR ha,fit_VR hb⟩,zBB _ _ _ (by simpa[oD]using p),oN,oN,oD,oD,sgn_mul2,zdo,zdo,mk_mul]
 rw[h,e]
end Go.Proofs.YtcpnffbcljkbkaaGreatDoor
namespace Go.Proofs.YtcpnffbcljkbkaaGreatDoor
open Go.Ab Go.Pure Go.PureDiv
set_option maxRecDepth 20000
def neg_fit{b:Rat}(hb:Fit b):Fit (-b):=(Bd.neg hb.bd:Bd 60 60 _)
def zkO{r:Rat}(h:Fit r):cw 177 [aR r] []=some (zao true):=by have v:=zmr (ofR r);rw[decide_eq_true (fit_VR h)]at v;exact v
def totR_sgn(p:Bool)(a:Nat)(q:Bool)(b:Nat):sgn (totR p a q b).1 (totR p a q b).2=sgn p a+sgn q b:=by
 unfold totR;by_cases h:p=q
 .subst h;rw[if_pos rfl];cases p<;>simp[sgn]<;>omega
 . rw[if_neg h];by_cases hc:b<=a
   .rw[if_pos hc];cases p<;>cases q<;>simp[sgn]at h ⊢<;>omega
   .rw[if_neg hc];cases p<;>cases q<;>simp[sgn]at h ⊢<;>omega
def mk_add(a b:Rat):mkRat (a.num*b.den+b.num*a.den) (a.den*b.den)=a+b:=by rw[<-Rat.mkRat_add_mkRat _ _ (Nat.ne_of_gt a.den_pos) (Nat.ne_of_gt b.den_pos),zh8,zh8]
def zBw(a b:Rat)(ha:Fit a)(hb:Fit b):cw 208 [aR a,aR b] []=some (zda (fitR (a+b))):=by
 have ha1:=ha.1;have ha2:=ha.2;have hb1:=hb.1;have hb2:=hb.2;have pa:=a.den_pos;have pb:=b.den_pos;have q1:=le120 (x:=a.num.natAbs) (y:=b.den) (by omega) (by omega);have q2:=le120 (x:=b.num.natAbs) (y:=a.den) (by omega) (by omega);have q3:=le120 (x:=a.den) (y:=b.den) (by omega) (by omega);have q4:=zgl pa pb;have s1:=zf3 a.num (by omega) (by omega);have s2:=zf3 b.num (by omega) (by omega);have s3:=zf3 (a.den:Int) (by omega) (by omega);have s4:=zf3 (b.den:Int) (by omega) (by omega);rw[zdo]at s3 s4;have p1:=zhs a.num.natAbs b.den (by omega) (by omega);have p2:=zhs b.num.natAbs a.den (by omega) (by omega);have p3:=zhs a.den b.den (by omega) (by omega);have t:=zDp (decide (a.num<0)) (a.num.natAbs*b.den) (decide (b.num<0)) (b.num.natAbs*a.den) (by omega);have ts:=totR_sgn (decide (a.num<0)) (a.num.natAbs*b.den) (decide (b.num<0)) (b.num.natAbs*a.den)
 have tl:(totR (decide (a.num<0)) (a.num.natAbs*b.den) (decide (b.num<0)) (b.num.natAbs*a.den)).2<=a.num.natAbs*b.den+b.num.natAbs*a.den:=by
  unfold totR;split
  .exact zav _
  .split<;>(show _-_<=_;omega)
 generalize totR (decide (a.num<0)) (a.num.natAbs*b.den) (decide (b.num<0)) (b.num.natAbs*a.den)=w at *;rw[zBE,zBE,<-sgn_of,<-sgn_of]at ts;have r1:=zs4 w.1 w.2 (a.den*b.den) q4 (by omega) (by omega);have e:redR w.1 w.2 (a.den*b.den)=fitR (a+b):=by rw[zBB _ _ _ q4,ts,mk_add]
 rw[e]at r1;refine zK7 ?_;rw[zkO ha,zaG,brn_nt,zkO hb,zaG,brn_nt,oN,oN,oD,oD,s1,zcm,s4,zcm,p1,zcz,s2,zcm,s3,zcm,p2,zcz,t,zpm,zcm,zcm,p3,zcz,r1,zcN];rfl
def zsl(a b:Rat)(ha:Fit a)(hb:Fit b):cw 206 [aR a,aR b] []=some (zda (fitR (a-b))):=by
 have hb1:=hb.1;refine zLb ?_
 have e:(⟨w64 (0-(ofR b).xf),(ofR b).Z⟩:zbr)=ofR (-b):=by
  have:w64 (0-(ofR b).xf)=-b.num:=by rw[oN,w6Q];omega
  rw[this];rfl
 rw[zkO ha,zaG,brn_nt,zkO hb,zaG,brn_nt,e,zBw a (-b) ha (neg_fit hb),zcN,Rat.sub_eq_add_neg];rfl
def sgn_sign(a b:Int)(D:Nat)(h0:b≠0):sgn (!decide (a<0)==decide (b<0)) (a.natAbs*D)=a*(b.sign*(D:Int)):=by
 have e:sgn (!decide (a<0)==decide (b<0)) (a.natAbs*D)=sgn (decide (a<0)) a.natAbs*(b.sign*(D:Int)):=by
  rcases Int.lt_or_gt_of_ne h0 with h|h
  .rw[Int.sign_eq_neg_one_of_neg h,decide_eq_true h];by_cases q:a<0<;>simp[q,sgn,zhn,Int.mul_neg]
  .rw[Int.sign_eq_one_of_pos h,decide_eq_false (show¬b<0 by omega)];by_cases q:a<0<;>simp[q,sgn,zhn,Int.mul_neg]
 rw[e,<-sgn_of]
def c_rDivF(a b:Rat)(ha:Fit a)(hb:Fit b)(h0:b≠0):cw 220 [aR a,aR b] []=some (zda (fitR (a / b))):=by
 have ha1:=ha.1;have ha2:=ha.2;have hb1:=hb.1;have hb2:=hb.2;have pa:=a.den_pos;have pb:=b.den_pos;have hn0:b.num≠0:=λh=>h0 (Rat.num_eq_zero.1 h)
 have q1:=le120 (x:=a.num.natAbs) (y:=b.den) (by omega) (by omega);have q2:=le120 (x:=a.den) (y:=b.num.natAbs) (by omega) (by omega);have q4:0<a.den*b.num.natAbs:=zgl pa (by omega);have s1:=zf3 a.num (by omega) (by omega);have s2:=zf3 b.num (by omega) (by omega);have s3:=zf3 (a.den:Int) (by omega) (by omega);have s4:=zf3 (b.den:Int) (by omega) (by omega);rw[zdo]at s3 s4;have p1:=zhs a.num.natAbs b.den (by omega) (by omega);have p2:=zhs a.den b.num.natAbs (by omega) (by omega);have r1:=zs4 (!decide (a.num<0)==decide (b.num<0)) (a.num.natAbs*b.den) (a.den*b.num.natAbs) q4 (by omega) (by omega);have iN:=Rat.num_inv b;have iD:=Rat.den_inv b;rw[if_neg hn0]at iD
 have e:redR (!decide (a.num<0)==decide (b.num<0)) (a.num.natAbs*b.den) (a.den*b.num.natAbs)=fitR (a / b):=by rw[zBB _ _ _ q4,sgn_sign _ _ _ hn0,<-iN,<-iD,mk_mul,<-Rat.div_def]
 rw[e]at r1;refine zK8 ?_;rw[zkO ha,zaG,brn_nt,zkO hb,zaG,brn_nt,oN,oN,oD,oD,brn_f (beq_false_of_ne hn0),s1,zcm,s4,zcm,p1,zcz,s3,zcm,s2,zcm,p2,zcz,r1,zcN];rfl
def zK3(a b:Rat)(ha:Fit a)(hb:Fit b):cw 182 [aR a,aR b] []=some (za9 (cmpZ (a.num*b.den) (b.num*a.den))):=by
 have ha1:=ha.1;have ha2:=ha.2;have hb1:=hb.1;have hb2:=hb.2;have pa:=a.den_pos;have pb:=b.den_pos;have q1:=le120 (x:=a.num.natAbs) (y:=b.den) (by omega) (by omega);have q2:=le120 (x:=b.num.natAbs) (y:=a.den) (by omega) (by omega);have s1:=zf3 a.num (by omega) (by omega);have s2:=zf3 b.num (by omega) (by omega);have s3:=zf3 (a.den:Int) (by omega) (by omega);have s4:=zf3 (b.den:Int) (by omega) (by omega);rw[zdo]at s3 s4;have p1:=zhs a.num.natAbs b.den (by omega) (by omega);have p2:=zhs b.num.natAbs a.den (by omega) (by omega);have t:=zDp (decide (a.num<0)) (a.num.natAbs*b.den) (decide (0<b.num)) (b.num.natAbs*a.den) (by omega);have hs:=totR_sgn (decide (a.num<0)) (a.num.natAbs*b.den) (decide (0<b.num)) (b.num.natAbs*a.den);generalize totR (decide (a.num<0)) (a.num.natAbs*b.den) (decide (0<b.num)) (b.num.natAbs*a.den)=w at *;obtain⟨r,c⟩:=w
 have e2:sgn (decide (0<b.num)) (b.num.natAbs*a.den)=-(b.num*(a.den:Int)):=by
  rw[zBE,<-zhn];congr 1;by_cases q:0<b.num
  .rw[decide_eq_true q];simp only[sgn,if_true];omega
  .rw[decide_eq_false q];simp only[zK,sgn];omega
 rw[e2,zBE,<-sgn_of]at hs;refine zEL ?_;rw[zkO ha,zaG,brn_nt,zkO hb,zaG,brn_nt,oN,oN,oD,oD,s1,zcm,s4,zcm,p1,zcz,s2,zcm,s3,zcm,p2,zcz,t,zpm];generalize a.num*(b.den:Int)=A at *;generalize b.num*(a.den:Int)=B at *;simp only[]at hs ⊢;rw[wd_zero];by_cases hc0:c=0
 .subst hc0;rw[decide_eq_true rfl,zaM,cmpZ_eq (by cases r<;>simp[sgn]at hs<;>omega)];rfl
 . rw[decide_eq_false hc0,zaB]
   cases r with
   |true=>rw[zaM,cmpZ_lt (by simp[sgn]at hs;omega)];rfl
   |false=>rw[zaB,cmpZ_gt (by simp[sgn]at hs;omega)];rfl
def cmpZ_neg{a b:Int}:decide (cmpZ a b<0)=decide (a<b):=by
 unfold cmpZ;split
 .rename_i h;rw[decide_eq_true h];rfl
 .rename_i h;rw[decide_eq_false h];split<;>rfl
def zvc(a b:Rat)(ha:Fit a)(hb:Fit b):cw 142 [aR a,aR b] []=some (zao (decide (a<b))):=by
 refine zJX ?_
 have:decide (a.num*(b.den:Int)<b.num*a.den)=decide (a<b):=by rw[decide_eq_decide,Rat.lt_iff]
 rw[zK3 a b ha hb,zcj,cmpZ_neg,this];rfl
end Go.Proofs.YtcpnffbcljkbkaaGreatDoor
namespace Go.Proofs.YtcpnffbcljkbkaaGreatDoor
open Go.Ab Go.Pure
set_option maxRecDepth 20000
def ofP(p:Pt):zdv:=⟨ofR p.1,ofR p.2⟩
abbrev ptsE(l:List Pt):List (List AV):=mQ (l.map ofP)
def elemP{β:Type}{l:List Pt}{i:Nat}{p:Pt}(h:l[i]?=some p)(k:zdv->Option β):elemD zfr (ptsE l) i k=k (ofP p):=
 zGk (D:=zfr) (l:=l.map ofP) (by rw[zbv,h];rfl) k
def lenP(l:List Pt):(ptsE l).length=l.length:=by simp
def znk{r:Rat}(h:Fit r):fitR r=(ofR r,0):=if_pos h
def zuX{r:Rat}(h:¬Fit r):fitR r=(⟨0,0⟩,6):=if_neg h
set_option maxRecDepth 20000
set_option maxRecDepth 20000
def zGS{l:List Pt}{i:Nat}{p q:Pt}(hl:l.length<=100000)(ha:Asc l)(hb:AllF l)(hp:l[i]?=some p)(hq:l[i+1]?=some q)(hs:SlF p q):cw 205 [.sl 4 (ptsE l),I (i:Int)] []=some (zgg (ofR (sl p q),true)):=by
 have hi:i+1<l.length:=(zal.1 hq).1;have e:w64 ((i:Int)+1)=((i+1:Nat):Int):=by rw[w6Q];omega
 have bp:=hb p (zau hp);have bq:=hb q (zau hq);have hlt:=(zDT ha hp hq).1;refine zzq ?_;rw[e];simp only[zae];rw[cPQ,elemP hq,cPQ,elemP hp];show callD zbl (cw 206 [aR q.2,aR p.2] []) _=_;rw[zsl _ _ bq.2 bp.2,zcN,cPQ,elemP hq,cPQ,elemP hp];show callD zbl (cw 206 [aR q.1,aR p.1] []) _=_;rw[zsl _ _ bq.1 bp.1,zcN,znk hs.1,znk hs.2.1,brn_f (by rfl),brn_f (by rfl)];show callD zbl (cw 220 [aR (q.2-p.2),aR (q.1-p.1)] []) _=_;have hd:Fit ((q.2-p.2) / (q.1-p.1)):=hs.2.2;rw[c_rDivF _ _ hs.1 hs.2.1 (by grind),zcN,znk hd];rfl
def rslope_no{l:List Pt}{i:Nat}{p q:Pt}(hl:l.length<=100000)(ha:Asc l)(hb:AllF l)(hp:l[i]?=some p)(hq:l[i+1]?=some q)(hs:¬SlF p q):cw 205 [.sl 4 (ptsE l),I (i:Int)] []=some (zgg (⟨0,0⟩,false)):=by
 have hi:i+1<l.length:=(zal.1 hq).1;have e:w64 ((i:Int)+1)=((i+1:Nat):Int):=by rw[w6Q];omega
 have bp:=hb p (zau hp);have bq:=hb q (zau hq);have hlt:=(zDT ha hp hq).1;refine zzq ?_;rw[e];simp only[zae];rw[cPQ,elemP hq,cPQ,elemP hp];show callD zbl (cw 206 [aR q.2,aR p.2] []) _=_;rw[zsl _ _ bq.2 bp.2,zcN,cPQ,elemP hq,cPQ,elemP hp];show callD zbl (cw 206 [aR q.1,aR p.1] []) _=_;rw[zsl _ _ bq.1 bp.1,zcN];by_cases h1:Fit (q.2-p.2)
 . rw[znk h1,brn_f (by rfl)];by_cases h2:Fit (q.1-p.1)
   . rw[znk h2,brn_f (by rfl)];show callD zbl (cw 220 [aR (q.2-p.2),aR (q.1-p.1)] []) _=_;have hd:¬Fit ((q.2-p.2) / (q.1-p.1)):=λh3=>hs ⟨h1,h2,h3⟩
     rw[c_rDivF _ _ h1 h2 (by grind),zcN,zuX hd];rfl
   .rw[zuX h2];rfl
 .rw[zuX h1];rfl
def zGT{l:List Pt}{i:Nat}{p q:Pt}{x:Rat}(hl:l.length<=100000)(ha:Asc l)(hb:AllF l)(hx:Fit x)(hp:l[i]?=some p)(hq:l[i+1]?=some q):(LnF p q x->zhf (l.map ofP) (ofR x) (i:Int)=some (zgg (ofR (ln p (sl p q) x),true)))/\(¬LnF p q x->zhf (l.map ofP) (ofR x) (i:Int)=some (zgg (⟨0,0⟩,false))):=by
 have hi:i+1<l.length:=(zal.1 hq).1;have bp:=hb p (zau hp);have bq:=hb q (zau hq);refine⟨λh=>?_,λh=>?_⟩
 .refine ztq ?_;rw[zGS hl ha hb hp hq h.1,zpn,cPQ,zae,elemP hp];show callD zbl (cw 206 [aR x,aR p.1] []) _=_;rw[zsl _ _ hx bp.1,zcN,znk h.2.1,brn_f (by rfl),brn_f (by rfl)];show callD zbl (cw 207 [aR (x-p.1),aR (sl p q)] []) _=_;rw[c_rMulF _ _ h.2.1 h.1.2.2,zcN,znk h.2.2.1,brn_f (by rfl),cPQ,elemP hp];show callD zbl (cw 208 [aR p.2,aR ((x-p.1)*sl p q)] []) _=_;have h4:Fit (p.2+(x-p.1)*sl p q):=h.2.2.2;rw[zBw _ _ bp.2 h.2.2.1,zcN,znk h4];rfl
 . refine ztq ?_;by_cases h1:SlF p q
   . rw[zGS hl ha hb hp hq h1,zpn,cPQ,zae,elemP hp];show callD zbl (cw 206 [aR x,aR p.1] []) _=_;rw[zsl _ _ hx bp.1,zcN,brn_f (by rfl)];by_cases h2:Fit (x-p.1)
     . rw[znk h2,brn_f (by rfl)];show callD zbl (cw 207 [aR (x-p.1),aR (sl p q)] []) _=_;rw[c_rMulF _ _ h2 h1.2.2,zcN];by_cases h3:Fit ((x-p.1)*sl p q)
       . rw[znk h3,brn_f (by rfl),cPQ,elemP hp];show callD zbl (cw 208 [aR p.2,aR ((x-p.1)*sl p q)] []) _=_;have h4:¬Fit (p.2+(x-p.1)*sl p q):=λh4=>h ⟨h1,h2,h3,h4⟩
         rw[zBw _ _ bp.2 h3,zcN,zuX h4];rfl
       .rw[zuX h3];rfl
     .rw[zuX h2];rfl
   .rw[rslope_no hl ha hb hp hq h1,zpn,cPQ,zae,elemP hp];show callD zbl (cw 206 [aR x,aR p.1] []) _=_;rw[zsl _ _ hx bp.1,zcN];rfl
def k_rvalue{l:List Pt}{x:Rat}(hl:l.length<=100000)(h2:2<=l.length)(ha:Asc l)(hb:AllF l)(hx:Fit x):∀(k i:Nat),i+2+k=l.length->(i=0\/∃p,l[i]?=some p/\p.1<x)->(EvP l x->zgF (l.map ofP) (ofR x) (i:Int)=some (zgg (ofR (cv l x),true)))/\(¬EvP l x->zgF (l.map ofP) (ofR x) (i:Int)=some (zgg (⟨0,0⟩,false))):=by
 intro k
 induction k with
 |zero =>
   intro i hk hi;have e:w64 ((i:Int)+2)=((i+2:Nat):Int):=by rw[w6Q];omega
   have hp:l[i]?=some l[i]:=zaa (by omega);have hq:l[i+1]?=some l[i+1]:=zaa (by omega)
   have hpc:=pc_at l i x l[i] l[i+1] ha hp hq (by
    rcases hi with hi|⟨p,h1,h2⟩
    .exact .inl hi
    .rw[hp]at h1;injection h1 with h1;rw[h1];exact .inr h2) (.inl (by omega))
   have hv:=cv_pc l x h2;have H:=zGT hl ha hb hx hp hq;unfold EvP;rw[hv,hpc];refine⟨λh=>?_,λh=>?_⟩
   .refine zn8 ?_;rw[e,zhI,if_neg (by rw[lenP];omega)];exact H.1 h
   .refine zn8 ?_;rw[e,zhI,if_neg (by rw[lenP];omega)];exact H.2 h
 |succ k ih =>
   intro i hk hi;have e:w64 ((i:Int)+2)=((i+2:Nat):Int):=by rw[w6Q];omega
   have e1:w64 ((i:Int)+1)=((i+1:Nat):Int):=by rw[w6Q];omega
   have hp:l[i]?=some l[i]:=zaa (by omega);have hq:l[i+1]?=some l[i+1]:=zaa (by omega);have bq:=hb _ (zau hq);by_cases hlt:(l[i+1]).1<x
   . have IH:=ih (i+1) (by omega) (.inr ⟨_,hq,hlt⟩)
     have st:∀y,zgF (l.map ofP) (ofR x) ((i+1:Nat):Int)=some y->zgF (l.map ofP) (ofR x) (i:Int)=some y:=λy h=>by refine zn8 ?_;rw[e,zhI,if_pos (by rw[lenP];omega),e1,cPQ,zae,elemP hq];show callD zac (cw 142 [aR (l[i+1]).1,aR x] []) _=_;rw[zvc _ _ bq.1 hx,zaG,decide_eq_true hlt,zaM];exact h
     exact⟨λh=>st _ (IH.1 h),λh=>st _ (IH.2 h)⟩
   . have hpc:=pc_at l i x l[i] l[i+1] ha hp hq (by
      rcases hi with hi|⟨p,h1,h2⟩
      .exact .inl hi
      .rw[hp]at h1;injection h1 with h1;rw[h1];exact .inr h2) (.inr (by grind))
     have hv:=cv_pc l x h2;have H:=zGT hl ha hb hx hp hq
     have st:∀y,zhf (l.map ofP) (ofR x) (i:Int)=some y->zgF (l.map ofP) (ofR x) (i:Int)=some y:=λy h=>by refine zn8 ?_;rw[e,zhI,if_pos (by rw[lenP];omega),e1,cPQ,zae,elemP hq];show callD zac (cw 142 [aR (l[i+1]).1,aR x] []) _=_;rw[zvc _ _ bq.1 hx,zaG,decide_eq_false hlt,zaB];exact h
     unfold EvP;rw[hv,hpc];exact⟨λh=>st _ (H.1 h),λh=>st _ (H.2 h)⟩
def rvalue_ok(l:List Pt)(x:Rat)(ha:Asc l)(h2:2<=l.length)(hl:l.length<=100000)(hb:AllF l)(hx:Fit x)(he:EvP l x):cw 181 [.sl 4 (ptsE l),aR x] []=some (zgg (ofR (cv l x),true)):=
 zzr ((k_rvalue hl h2 ha hb hx (l.length-2) 0 (by omega) (.inl rfl)).1 he)
def rvalue_no(l:List Pt)(x:Rat)(ha:Asc l)(h2:2<=l.length)(hl:l.length<=100000)(hb:AllF l)(hx:Fit x)(he:¬EvP l x):cw 181 [.sl 4 (ptsE l),aR x] []=some (zgg (⟨0,0⟩,false)):=
 zzr ((k_rvalue hl h2 ha hb hx (l.length-2) 0 (by omega) (.inl rfl)).2 he)
section
variable{l:List Pt}{xs:List Rat}
end
end Go.Proofs.YtcpnffbcljkbkaaGreatDoor
end
