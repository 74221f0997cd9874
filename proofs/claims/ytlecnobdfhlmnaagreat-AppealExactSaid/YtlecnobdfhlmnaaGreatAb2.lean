/- Operations with their conditions. -/
import Derived.Test.YtlecnobdfhlmnaaGreatAb1
import Derived.Shelf.SlSortCmp.WholeK
import Derived.Shelf.SlSortCmp.NoneTotal
import Derived.Shelf.SlIterI.Nil
import Derived.Shelf.Spec.SlicesGrow
import Derived.Maps.RangeRun
import Derived.Control
set_option linter.all false
noncomputable section
namespace Go.Ab
open Go.RowKit
def Holds:List Prop->Prop
 |[]=>True
 |p::r=>p/\Holds r
def zeN{a b:aQ}:Holds (a++b)↔Holds a/\Holds b:=by
 induction a with
 |nil=>simp[Holds]
 |cons p r ih=>simp[Holds,ih,and_assoc]
def psnap(L:aG):Nat->AV->Option (AV×List Prop)
 |0,_=>none
 |k+1,a=>match a with
   |.row b z off n=>match L b with
     |some ent=>if ent.z=z/\ent.box=false/\0<z then some (.sl z ((ent.es.drop off).take n),[off+n<=ent.es.length])else none
     |none=>none
   |.agg cs=>match mapO (psnap L k) cs with
     |some l=>some (.agg (l.map (·.1)),l.flatMap (·.2))
     |none=>none
   |.fn f cs=>match mapO (psnap L k) cs with
     |some l=>some (.fn f (l.map (·.1)),l.flatMap (·.2))
     |none=>none
   |.tup cs=>match mapO (psnap L k) cs with
     |some l=>some (.tup (l.map (·.1)),l.flatMap (·.2))
     |none=>none
   |.loc b z i o=>match L b with
     |some ent=>if ent.z=z/\(ent.box=true\/0<ent.z)then(match ent.box with
       |true=>(match ent.es[i]? with
         |some cs=>(match mapO (psnap L k) (cs.drop o)with
           |some l=>some (.fp (l.map (·.1)),l.flatMap (·.2))
           |none=>none)
         |none=>none)
       |false=>if i=0/\o=0 then some (.fa z ent.es,[i<ent.es.length])else some (.fp (zAG ent.es i o),[i<ent.es.length]))else none
     |none=>none
   |a=>match snap L (k+1) a with
     |some a'=>some (a',[])
     |none=>none
def zHW{l:List (AV×List Prop)}(h:Holds (l.flatMap (·.2))):∀q∈l,Holds q.2:=by
 induction l with
 |nil=>intro q hq;cases hq
 |cons p r ih =>
   simp only[zh8,zeN]at h
   grind
def mapO_of{α β γ:Type}{f:α->Option β}{g:α->Option γ}{t:γ->β}:∀{l:List α} {r:List γ},mapO g l=some r->(∀a c,a∈l->c∈r->g a=some c->f a=some (t c))->mapO f l=some (r.map t)
 |[],r,h,_=>by simp[mapO]at h;subst h;rfl
 |a::l,r,h,hf=>by
   simp only[mapO]at h
   cases hg:g a with
   |none=>simp[hg]at h
   |some c =>
     simp only[hg]at h
     cases hm:mapO g l with
     |none=>simp[hm]at h
     |some l'=>simp only[hm,zaj]at h;subst h;simp only[mapO,hf a c (by simp) (by simp) hg,zbX];rw[mapO_of hm (λa' c' ha hc=>hf a' c' (by simp[ha]) (by simp[hc]))]
def zk6{L:aG}:∀(k:Nat) (a a':AV) (cs:aQ),psnap L k a=some (a',cs)->Holds cs->snap L k a=some a':=by
 intro k
 induction k with
 |zero=>intro a a' cs h;simp[psnap]at h
 |succ k ih =>
   intro a a' ps h hh
   have lists:∀(cs:aH) (l:List (AV×List Prop)),mapO (psnap L k) cs=some l->Holds (l.flatMap (·.2))->mapO (snap L k) cs=some (l.map (·.1)):=by intro cs l hm hl;exact mapO_of hm (λa c _ hc hg=>ih a c.1 c.2 hg (zHW hl c hc))
   cases a with
   |row b z off n =>
     simp only[psnap]at h;simp only[snap]
     cases hl:L b with
     |none=>simp[hl]at h
     |some ent =>
       simp only[hl]at h ⊢;split at h
       case isFalse=>cases h
       rename_i hc;simp only[zJ]at h;obtain⟨rfl,rfl⟩:=h;rw[if_pos ⟨hc.1,hc.2.1,hc.2.2,hh.1⟩]
   |agg cs =>
     simp only[psnap]at h;simp only[snap]
     grind
   |fn f cs =>
     simp only[psnap]at h;simp only[snap]
     grind
   |tup cs =>
     simp only[psnap]at h;simp only[snap]
     grind
   |loc b z i o =>
     simp only[psnap]at h;simp only[snap]
     cases hl:L b with
     |none=>simp[hl]at h
     |some ent =>
       simp only[hl]at h ⊢;split at h
       case isFalse=>cases h
       rename_i hc;rw[if_pos hc]
       cases hbx:ent.box with
       |true=>grind
       |false =>
         simp only[hbx]at h;split at h
         .rename_i hio;simp only[zJ]at h;obtain⟨rfl,rfl⟩:=h;rw[zaa hh.1];simp[hio]
         .rename_i hio;simp only[zJ]at h;obtain⟨rfl,rfl⟩:=h;rw[zaa hh.1];simp[hio]
   |_ =>
     simp only[psnap]at h;split at h
     .rename_i a1 ha;simp only[zJ]at h;obtain⟨rfl,rfl⟩:=h;exact ha
     .cases h
def zsd(L:aG)(wrt:aF):Nat->List AV->Option ((List AV×Mem×List (Nat×Nat)×List Nat)×List Prop)
 |_,[]=>some (([],[],[],[]),[])
 |k,a::r=>match zsd L wrt (k+1) r with
   |none=>none
   |some ((bc,ms,bk,fz),ps) =>
     if(wrt.contains k&&!a.data)=true then(match a with
      |.loc b z 0 0=>match L b with
        |some ent=>if ent.z=z/\ent.box=true/\allL (λcs=>allL (AV.isC 4) cs) ent.es=true/\bk.all (λp=>p.1≠b)=true then
          some ((.loc (1000+k) z 0 0::bc,(1000+k,ent)::ms,(b,1000+k)::bk,fz),ps)else none
        |none=>none
      |.row b z off n=>match L b with
        |some ent=>if ent.z=z/\ent.box=false/\0<z/\bk.all (λp=>p.1≠b)=true then
          some ((.row (1000+k) z off n::bc,(1000+k,ent)::ms,(b,1000+k)::bk,fz),ps)else none
        |none=>none
      |.map b=>match L b with
        |some ent=>if ent.z=0/\ent.box=false/\bk.all (λp=>p.1≠b)=true then
          some ((.map (1000+k)::bc,(1000+k,ent)::ms,(b,1000+k)::bk,fz),ps)else none
        |none=>none
      |_=>none)
     else if wrt.contains (100+k)then(match a with
      |.row b z 0 n=>match L b with
        |some ent=>if ent.z=z/\ent.box=false/\0<z/\b<1000/\k<50/\bk.all (λp=>p.1≠b)=true then
          some ((.row (950+k) z 0 n::bc,(950+k,ent)::ms,(b,950+k)::bk,fz),(n=ent.es.length)::ps)else none
        |none=>none
      |_=>none)
     else match psnap L 5 a with
      |some (a',qs)=>some ((a'::bc,ms,bk,a.ids L 5++fz),qs++ps)
      |none=>none
def zpo{L:aG}{wrt:aF}:∀(args:aH) (k:Nat) (q:List AV×Mem×List (Nat×Nat)×List Nat) (ps:aQ),zsd L wrt k args=some (q,ps)->Holds ps->zft L wrt k args=some q
 |[],k,q,ps,h,_=>by simp[zsd]at h;rw[<-h.1];rfl
 |a::r,k,q,ps,h,hh=>by
   simp only[zsd]at h
   cases hr:zsd L wrt (k+1) r with
   |none=>simp[hr]at h
   |some q0 =>
     obtain⟨⟨bc,ms,bk,fz⟩,ps0⟩:=q0;simp only[hr]at h;simp only[zft];by_cases hw:(wrt.contains k&&!a.data)=true
     . simp only[hw,if_true]at h ⊢
       have hps:Holds ps0:=by
        split at h
        .grind
        .grind
        .grind
        .cases h
       rw[zpo r (k+1) _ _ hr hps]
       grind
     . simp only[zQ,hw]at h ⊢;by_cases hg:wrt.contains (100+k)=true
       . simp only[hg,if_true]at h ⊢;split at h
         case h_2=>cases h
         split at h
         case h_2=>cases h
         rename_i ent hl;split at h
         case isFalse=>cases h
         rename_i hc;simp only[zJ]at h;obtain⟨h1,rfl⟩:=h;rw[zpo r (k+1) _ _ hr hh.2];simp only[hl];rw[if_pos ⟨hc.1,hc.2.1,hc.2.2.1,hh.1,hc.2.2.2.1,hc.2.2.2.2.1,hc.2.2.2.2.2⟩,<-h1]
       simp only[zQ,hg]at h ⊢
       cases hs:psnap L 5 a with
       |none=>simp[hs]at h
       |some q1=>obtain⟨a',qs⟩:=q1;simp only[zJ,hs]at h;obtain⟨rfl,rfl⟩:=h;rw[zeN]at hh;rw[zpo r (k+1) _ _ hr hh.2,zk6 5 a a' qs hs hh.1]
def pnest(L:aG):Nat->List AV->Option ((List AV×Mem×List (Nat×Nat))×List Prop)
 |_,[]=>some (([],[],[]),[])
 |q,a::r=>if a.isC 4=true then(match pnest L q r with
   |some ((cs,ms,bk),ps)=>some ((a::cs,ms,bk),ps)
   |none=>none)
   else match a with
    |.row c z 0 n=>match L c,pnest L (q+1) r with
      |some ent,some ((cs,ms,bk),ps)=>if ent.z=z/\ent.box=false/\0<z/\c<1000/\q<950/\bk.all (λp=>p.1≠c)=true then
        some ((.row q z 0 n::cs,(q,ent)::ms,(c,q)::bk),(n=ent.es.length)::ps)else none
      |_,_=>none
    |.map c=>match L c,pnest L (q+1) r with
      |some ent,some ((cs,ms,bk),ps)=>if ent.z=0/\ent.box=false/\c<1000/\q<950/\bk.all (λp=>p.1≠c)=true then
        some ((.map q::cs,(q,ent)::ms,(c,q)::bk),ps)else none
      |_,_=>none
    |_=>none
def zui{L:aG}:∀(cs:aH) (q:Nat) (x:List AV×Mem×List (Nat×Nat)) (ps:aQ),pnest L q cs=some (x,ps)->Holds ps->nest L q cs=some x
 |[],q,x,ps,h,_=>by simp[pnest]at h;rw[<-h.1];rfl
 |a::r,q,x,ps,h,hh=>by
   simp only[pnest]at h;simp only[nest];split at h
   . rename_i hC;rw[if_pos hC];split at h
     case h_2=>cases h
     rename_i cs ms bk ps0 hr;simp only[zJ]at h;obtain⟨rfl,rfl⟩:=h;rw[zui r q _ _ hr hh]
   . rename_i hC;rw[if_neg hC];split at h
     . split at h
       case h_2=>cases h
       rename_i ent cs ms bk ps0 hl hr;split at h
       case isFalse=>cases h
       rename_i hc;simp only[zJ]at h;obtain⟨rfl,rfl⟩:=h;simp only[hl];rw[zui r (q+1) _ _ hr hh.2];simp only;rw[if_pos ⟨hc.1,hc.2.1,hc.2.2.1,hh.1,hc.2.2.2⟩]
     . split at h
       case h_2=>cases h
       rename_i ent cs ms bk ps0 hl hr;split at h
       case isFalse=>cases h
       rename_i hc;simp only[zJ]at h;obtain⟨rfl,rfl⟩:=h;simp only[hl];rw[zui r (q+1) _ _ hr hh]
       grind
     .cases h
def pdArgs(L:aG)(k0:Nat)(x:AV):Nat->List AV->Option ((List AV×List Nat)×List Prop)
 |_,[]=>some (([],[]),[])
 |k,a::r=>match pdArgs L k0 x (k+1) r with
   |none=>none
   |some ((bc,fz),ps)=>if k=k0 then some ((x::bc,fz),ps)else match psnap L 5 a with
     |some (a',qs)=>some ((a'::bc,a.ids L 5++fz),qs++ps)
     |none=>none
def zw0{L:aG}{k0:Nat}{x0:AV}:∀(args:aH) (k:Nat) (x:List AV×List Nat) (ps:aQ),pdArgs L k0 x0 k args=some (x,ps)->Holds ps->dArgs L k0 x0 k args=some x
 |[],k,x,ps,h,_=>by simp[pdArgs]at h;rw[<-h.1];rfl
 |a::r,k,x,ps,h,hh=>by
   simp only[pdArgs]at h;simp only[dArgs];split at h
   .cases h
   . rename_i bc fz ps0 hr;split at h
     . rename_i hk;simp only[zJ]at h;obtain⟨rfl,rfl⟩:=h;rw[zw0 r (k+1) _ _ hr hh]
       simp_all
     . rename_i hk;split at h
       case h_2=>cases h
       rename_i a' qs hs;simp only[zJ]at h;obtain⟨rfl,rfl⟩:=h;rw[zeN]at hh;rw[zw0 r (k+1) _ _ hr hh.2];simp only;rw[if_neg hk,zk6 5 a a' qs hs hh.1]
def pInt(op:BinOp)(k k':IntKind)(a b:Int):Option (AV×List Prop):=
 match op with
 |.shl=>some (.v (.int k (k.wrap (a*2 ^ (min b.toNat k.bits)))),[0<=b])
 |.shr=>some (.v (.int k (a.fdiv (2 ^ (min b.toNat k.bits)))),[0<=b])
 |op=>if k=k' then(match op with
   |.add=>some (.v (.int k (k.wrap (a+b))),[])
   |.sub=>some (.v (.int k (k.wrap (a-b))),[])
   |.mul=>some (.v (.int k (k.wrap (a*b))),[])
   |.quo=>some (.v (.int k (k.wrap (a.tdiv b))),[b≠0])
   |.rem=>some (.v (.int k (a.tmod b)),[b≠0])
   |.eql=>some (.v (.bool (a==b)),[])
   |.neq=>some (.v (.bool (a !=b)),[])
   |.lss=>some (.v (.bool (decide (a<b))),[])
   |.leq=>some (.v (.bool (decide (a<=b))),[])
   |.gtr=>some (.v (.bool (decide (b<a))),[])
   |.geq=>some (.v (.bool (decide (b<=a))),[])
   |_=>none)else none
def pInt_sound{P:Program}{o:Oper}{op:BinOp}{t u:TypeId}{x y:Operand}{E:aU}{k k':IntKind}{a b:Int}(ho:o.op=.binOp op t x y u)(hx:E x=.v (.int k a))(hy:E y=.v (.int k' b)){v:AV}{ps:aQ}
  (h:pInt op k k' a b=some (v,ps)) (hh:Holds ps):aPure P o E=some { val:=v }:=by
 have hops:o.op.operands=#[x,y]:=by rw[ho];rfl
 unfold aPure;rw[hops];have hall:([x,y].all λx=>(E x).toVal.isSome)=true:=by simp[hx,hy,AV.toVal]
 rw[show(#[x,y]:Array Operand).toList=[x,y]from rfl,if_pos hall]
 have hex:execOp (λx=>((E x).toVal).getD undef) o=(do let q <-(do eqGuard op t x y (.int k a) (.int k' b);binOp op t (.int k a) (.int k' b));pure (.value q)):=by simp only[execOp,ho,hx,hy,AV.toVal,zbO]
 rw[hex]
 have hg:∀(s:Sem Value),zd9 P (do eqGuard op t x y (.int k a) (.int k' b);s)=zd9 P s:=by intro s;cases op<;>simp[eqGuard,Bind.bind,Sem.bind,Pure.pure]
 have hrun:∀(s:Sem Value) (q:Value),zd9 P s=some q->zd9 P (do let q <-s;pure (Next.value q))=some (Next.value q):=by
  intro s
  induction s with
  |pure a=>intro q hq;simp[zd9]at hq;subst hq;rfl
  |program f ih=>intro q hq;simp only[zd9]at hq;exact ih P q hq
  |mark m f ih=>intro q hq;simp only[zd9]at hq;exact ih q hq
  |_=>intro q hq;simp[zd9]at hq
 have fin:∀q:Value,q.oneCell'=true->(∀vs,q≠.tuple vs)->zd9 P (binOp op t (.int k a) (.int k' b))=some q->v=.v q->(match zd9 P (do let q <-(do eqGuard op t x y (.int k a) (.int k' b);binOp op t (.int k a) (.int k' b));pure (Next.value q))with
    |some (.value x)=>match ofVal x with
      |some a=>some { val:=a }
      |none=>none
    |_=>none)=some ({ val:=v }:Res):=by
  intro q h1 hn h2 h3;rw[hrun _ q (by rw[hg];exact h2)]
  have:ofVal q=some (.v q):=by
   unfold ofVal;split
   .grind
   .rw[if_pos h1]
  simp only[this,h3]
 unfold pInt at h;cases op<;>simp only at h
 case shl =>
  simp only[zJ]at h;obtain⟨rfl,rfl⟩:=h;refine fin (.int k (k.wrap (a*2 ^ (min b.toNat k.bits)))) rfl (by simp) ?_ rfl;have:¬b<0:=by have:=hh.1;omega
  simp[binOp,Op.shift,this,zd9,Pure.pure]
 case shr =>
  simp only[zJ]at h;obtain⟨rfl,rfl⟩:=h;refine fin (.int k (a.fdiv (2 ^ (min b.toNat k.bits)))) rfl (by simp) ?_ rfl;have:¬b<0:=by have:=hh.1;omega
  simp[binOp,Op.shift,this,zd9,Pure.pure]
 all_goals
  split at h
  case isFalse=>cases h
  rename_i hk;subst hk
 case add|sub|mul=>simp only[zJ]at h;obtain⟨rfl,rfl⟩:=h;refine fin _ rfl (by simp) ?_ rfl;simp[binOp,Op.intArith,zd9,Pure.pure]
 case quo|rem=>simp only[zJ]at h;obtain⟨rfl,rfl⟩:=h;refine fin _ rfl (by simp) ?_ rfl;have:=hh.1;simp[binOp,Op.intDiv,this,zd9,Pure.pure]
 case eql|neq|lss|leq|gtr|geq=>simp only[zJ]at h;obtain⟨rfl,rfl⟩:=h;refine fin _ rfl (by simp) ?_ rfl;simp[binOp,Op.intCmp,zd9,Pure.pure]
 all_goals cases h
def noCall:zcO:=λ_ _ _=>none
def noCall_le(c:zcO):LeC noCall c:=λ_ _ _ _ h=>by cases h
def psrc(L:aG)(z:Nat):AV->Option (List (List AV)×List Prop)
 |.row b z' off n=>match L b with
   |some ent=>if ent.z=z/\z'=z/\ent.box=false/\0<z then some ((ent.es.drop off).take n,[off+n<=ent.es.length])else none
   |none=>none
 |a=>match srcOf L z a with
   |some l=>some (l,[])
   |none=>none
def zAX{L:aG}{z:Nat}{a:AV}{l:aI}{ps:aQ}(h:psrc L z a=some (l,ps))(hh:Holds ps):srcOf L z a=some l:=by
 unfold psrc at h;split at h
 . rename_i b z' off n;simp only[srcOf]
   cases hl:L b with
   |none=>simp[hl]at h
   |some ent =>
     simp only[hl]at h ⊢;split at h
     case isFalse=>cases h
     rename_i hc;simp only[zJ]at h;obtain⟨rfl,rfl⟩:=h;rw[if_pos ⟨hc.1,hc.2.1,hc.2.2.1,hc.2.2.2,hh.1⟩]
 grind
def pNat(d:Nat):Option AV->Option (Nat×List Prop)
 |none=>some (d,[])
 |some (.v (.int _ n))=>some (n.toNat,[0<=n])
 |_=>none
def zvY{d n:Nat}{a:Option AV}{ps:aQ}(h:pNat d a=some (n,ps))(hh:Holds ps):natOf d a=some n:=by
 unfold pNat at h;split at h
 .simp only[zJ]at h;obtain⟨rfl,rfl⟩:=h;rfl
 .simp only[zJ]at h;obtain⟨rfl,rfl⟩:=h;simp only[natOf];rw[if_pos hh.1]
 .cases h
def pSlice(P:Program)(t:TypeId)(x:AV)(lo hi:Option AV):Option (Res×List Prop):=
 match P.underlying t with
 |some (.slice e)=>match szB P e,x with
   |some sz,.sl z es=>match pNat 0 lo,pNat es.length hi with
     |some (l,ps),some (h,qs)=>if z=sz then some ({ val:=.sl z ((es.take h).drop l) },ps++(qs++[l<=h,h<=es.length]))else none
     |_,_=>none
   |some sz,.row b z off n=>match pNat 0 lo,pNat n hi with
     |some (l,ps),some (h,qs)=>if z=sz then some ({ val:=.row b z (off+l) (h-l) },ps++(qs++[l<=h,h<=n]))else none
     |_,_=>none
   |_,_=>none
 |_=>none
def zMq{P:Program}{t:TypeId}{x:AV}{lo hi:Option AV}{r:Res}{ps:aQ}(h:pSlice P t x lo hi=some (r,ps))(hh:Holds ps):aSlice P t x lo hi=some r:=by
 unfold pSlice at h;unfold aSlice
 cases hu:P.underlying t with
 |none=>simp[hu]at h
 |some td =>
   cases td with
   |slice e =>
     simp only[hu]at h ⊢;split at h
     . rename_i sz z es hs;simp only[hs];split at h
       case h_2=>cases h
       rename_i l p1 hh' q1 h1 h2;split at h
       case isFalse=>cases h
       rename_i hz;simp only[zJ]at h;obtain⟨rfl,rfl⟩:=h;rw[zeN,zeN]at hh;rw[zvY h1 hh.1,zvY h2 hh.2.1];simp only;rw[if_pos ⟨hz,hh.2.2.1,hh.2.2.2.1⟩]
     . rename_i sz b z off n hs;simp only[hs];split at h
       case h_2=>cases h
       rename_i l p1 hh' q1 h1 h2;split at h
       case isFalse=>cases h
       rename_i hz;simp only[zJ]at h;obtain⟨rfl,rfl⟩:=h;rw[zeN,zeN]at hh;rw[zvY h1 hh.1,zvY h2 hh.2.1];simp only;rw[if_pos ⟨hz,hh.2.2.1,hh.2.2.2.1⟩]
     .cases h
   |_=>simp[hu]at h
def pMake(P:Program)(d:Nat)(t:TypeId)(l c:AV):Option (Res×List Prop):=
 match l,c with
 |.v (.int _ n),.v (.int _ n')=>match P.underlying t with
   |some (.slice e)=>match szB P e,zeroB P e,P.info? e with
     |some sz,some zero,some i=>if 0<sz/\zero.length=sz/\allL AV.one zero=true then
       some ({ val:=.row d sz 0 (List.replicate n.toNat (nrmL P (zlb P 8 e) zero)).length,set:=[(d,{ z:=sz,e:=e,es:=List.replicate n.toNat (nrmL P (zlb P 8 e) zero),box:=false })] },[n=n',0<=n,n.toNat*(i.bytes+1)<=1099511627776])else none
     |_,_,_=>none
   |_=>none
 |_,_=>none
def zNp{P:Program}{d:Nat}{t:TypeId}{l c:AV}{r:Res}{ps:aQ}(h:pMake P d t l c=some (r,ps))(hh:Holds ps):aMake P d t l c=some r:=by
 unfold pMake at h;split at h
 case h_2=>cases h
 rename_i k n k' n';split at h
 case h_2=>cases h
 rename_i e hu;split at h
 case h_2=>cases h
 rename_i sz zero i hs hz hi;split at h
 case isFalse=>cases h
 rename_i hc;simp only[zJ]at h;obtain⟨rfl,rfl⟩:=h;simp only[aMake,hu,hs,hz,hi];rw[if_pos ⟨hh.1,hh.2.1,hc.1,hc.2.1,hc.2.2,hh.2.2.1⟩]
def pAppend(P:Program)(L:aG)(d:Nat)(t:TypeId)(s x:AV):Option (Res×List Prop):=
 match P.underlying t with
 |some (.slice e)=>match P.info? e,zeroB P e with
   |some i,some zero=>if 0<i.size/\zero.length=i.size then(match psrc L i.size x with
     |some (new,ps)=>(match s with
       |.v (.slice none 0 0)=>some ({ val:=.row d i.size 0 new.length,set:=[(d,{ z:=i.size,e:=e,es:=new,box:=false })] },ps++[new.length*(i.bytes+1)<=1099511627776])
       |.row b z off n=>match L b with
         |some ent=>if b<1000/\b≠d/\ent.z=i.size/\z=i.size/\ent.e=e/\ent.box=false/\off=0 then
           some ({ val:=.row d i.size 0 (ent.es++new).length,set:=[(d,{ z:=i.size,e:=e,es:=ent.es++new,box:=false })],kill:=some b },ps++[n=ent.es.length,(ent.es.length+new.length)*(i.bytes+1)<=1099511627776])else none
         |none=>none
       |_=>none)
     |none=>none)else none
   |_,_=>none
 |_=>none
def zK7{P:Program}{L:aG}{d:Nat}{t:TypeId}{s x:AV}{r:Res}{ps:aQ}(h:pAppend P L d t s x=some (r,ps))(hh:Holds ps):zoJ P L d t s x=some r:=by
 unfold pAppend at h;unfold zoJ
 cases hu:P.underlying t with
 |none=>simp[hu]at h
 |some td =>
   cases td with
   |slice e =>
     simp only[hu]at h ⊢
     cases hi:P.info? e with
     |none=>simp[hi]at h
     |some i =>
       cases hz:zeroB P e with
       |none=>simp[hi,hz]at h
       |some zero =>
         simp only[hi,hz]at h ⊢;split at h
         case isFalse=>cases h
         rename_i hc;rw[if_pos hc]
         cases hs:psrc L i.size x with
         |none=>simp[hs]at h
         |some q =>
           obtain⟨new,qs⟩:=q;simp only[hs]at h;split at h
           .simp only[zJ]at h;obtain⟨rfl,rfl⟩:=h;rw[zeN]at hh;rw[zAX hs hh.1];simp only;rw[if_pos hh.2.1]
           . rename_i b z off n
             cases hl:L b with
             |none=>simp[hl]at h
             |some ent =>
               simp only[hl]at h ⊢;split at h
               case isFalse=>cases h
               rename_i hc2;simp only[zJ]at h;obtain⟨rfl,rfl⟩:=h;rw[zeN]at hh;rw[zAX hs hh.1];simp only;rw[if_pos ⟨hc2.1,hc2.2.1,hc2.2.2.1,hc2.2.2.2.1,hc2.2.2.2.2.1,hc2.2.2.2.2.2.1,hc2.2.2.2.2.2.2,hh.2.1,hh.2.2.1⟩]
           .cases h
   |_=>simp[hu]at h
def pCopy(P:Program)(L:aG)(t:TypeId)(s x:AV):Option (Res×List Prop):=
 match P.underlying t with
 |some (.slice e)=>match szB P e,s with
   |some sz,.row b z off n=>match L b,psrc L sz x with
     |some ent,some (new,ps)=>if 0<sz/\z=sz/\ent.z=sz/\ent.box=false then
       some ({ val:=.v (.int .i64 (min new.length n:Nat)),set:=[(b,{ ent with es:=ent.es.take off++(new.take n)++ent.es.drop (off+min new.length n) })] },ps++[off+n<=ent.es.length])else none
     |_,_=>none
   |_,_=>none
 |_=>none
def zNo{P:Program}{L:aG}{t:TypeId}{s x:AV}{r:Res}{ps:aQ}(h:pCopy P L t s x=some (r,ps))(hh:Holds ps):aCopy P L t s x=some r:=by
 unfold pCopy at h;unfold aCopy
 cases hu:P.underlying t with
 |none=>simp[hu]at h
 |some td =>
   cases td with
   |slice e =>
     simp only[hu]at h ⊢;split at h
     case h_2=>cases h
     rename_i sz b z off n hs;simp only[hs];split at h
     case h_2=>cases h
     rename_i ent new qs hl hsrc;split at h
     case isFalse=>cases h
     rename_i hc;simp only[zJ]at h;obtain⟨rfl,rfl⟩:=h;rw[zeN]at hh;rw[hl,zAX hsrc hh.1];simp only;rw[if_pos ⟨hc.1,hc.2.1,hc.2.2.1,hc.2.2.2,hh.2.1⟩]
   |_=>simp[hu]at h
def pClear(P:Program)(L:aG)(t:TypeId)(s:AV):Option (Res×List Prop):=
 match P.underlying t with
 |some (.slice e)=>match szB P e,zeroB P e,s with
   |some sz,some zero,.row b z off n=>match L b with
     |some ent=>if 0<sz/\z=sz/\ent.z=sz/\ent.box=false/\zero.length=sz/\allL AV.one zero=true then
       some ({ val:=.tup [],set:=[(b,{ ent with es:=ent.es.take off++List.replicate n (nrmL P (zlb P 8 e) zero)++ent.es.drop (off+n) })] },[off+n<=ent.es.length])else none
     |none=>none
   |_,_,_=>none
 |_=>none
def zMp{P:Program}{L:aG}{t:TypeId}{s:AV}{r:Res}{ps:aQ}(h:pClear P L t s=some (r,ps))(hh:Holds ps):aClear P L t s=some r:=by
 unfold pClear at h;unfold aClear
 cases hu:P.underlying t with
 |none=>simp[hu]at h
 |some td =>
   cases td with
   |slice e =>
     simp only[hu]at h ⊢;split at h
     case h_2=>cases h
     rename_i sz zero b z off n hs hz;simp only[hs,hz];split at h
     case h_2=>cases h
     rename_i ent hl;split at h
     case isFalse=>cases h
     rename_i hc;simp only[zJ]at h;obtain⟨rfl,rfl⟩:=h;rw[hl];simp only;rw[if_pos ⟨hc.1,hc.2.1,hc.2.2.1,hc.2.2.2.1,hc.2.2.2.2.1,hc.2.2.2.2.2,hh.1⟩]
   |_=>simp[hu]at h
def strAt(s:ByteArray)(n:Int):Int:=(((s[n.toNat]?).getD 0).toNat:Int)
def zNy{P:Program}{o:Oper}{t:TypeId}{x ix:Operand}{E:aU}{s:ByteArray}{k:IntKind}{n:Int}(ho:o.op=.index t x ix)(hx:E x=.v (.string s))(hi:E ix=.v (.int k n))
  (hu:P.underlying t=some .string) (h0:0<=n) (h1:n<(s.size:Int)):aPure P o E=some { val:=.v (.int .u8 (strAt s n)) }:=by
 have h1':n.toNat<s.size:=by omega
 have hs:s[n.toNat]?=some s[n.toNat]:=by simp[h1']
 have hr:zd9 P (execOp (λx=>((E x).toVal).getD undef) o)=some (.value (.int .u8 (strAt s n))):=by simp[execOp,ho,hx,hi,AV.toVal,Instr.index,asIntOf,underlying,h0,hs,strAt,bind,Sem.bind,Pure.pure];simp[program,zd9,Sem.bind,hu,hs]
 unfold aPure
 have ha:o.op.operands.toList.all (λx=>(E x).toVal.isSome)=true:=by simp[ho,Op.operands,hx,hi,AV.toVal]
 rw[if_pos ha,hr];rfl
section
variable[Dr]
def pown1(s z:Nat)(e:TypeId)(st:St):Option (St×List Prop):=
 if s<1000/\0<z then
  match get st.t s with
  |.v (.slice none 0 0) =>
    let st':=del s st
    some ({ t:=(s,.row s z 0 0)::st'.t,m:=(s,{ z,e,es:=[],box:=false })::st'.m },[])
  |.row b z' off n=>if b=s then some (st,[])else match look st.m b with
    |some ent=>if b<1000/\off=0/\ent.box=false/\z'=ent.z then
      let st':=del b (del s st)
      some ({ t:=(s,.row s z' 0 n)::st'.t,m:=(s,ent)::st'.m },[n=ent.es.length])
      else none
    |none=>none
  |.map b=>some (if b=s then st else if b<1000 then renS b s (del s st)else st,[])
  |_=>some (st,[])
 else none
def zNr{s z:Nat}{e:TypeId}{st st':St}{ps:aQ}(h:pown1 s z e st=some (st',ps))(hh:Holds ps):own1 s z e st=st':=by
 unfold pown1 at h;unfold own1;split at h
 case isFalse=>cases h
 rename_i hs;rw[if_pos hs];split at h
 .simp_all
 . rename_i b z' off n hv;rw[hv];simp only;split at h
   .simp_all
   . rename_i hb;rw[if_neg hb]
     cases hl:look st.m b with
     |none=>simp[hl]at h
     |some ent =>
       simp only[hl]at h ⊢;split at h
       case isFalse=>cases h
       rename_i hc;simp only[zJ]at h;obtain⟨rfl,rfl⟩:=h;rw[if_pos ⟨hc.1,hc.2.1,hh.1,hc.2.2.1,hc.2.2.2⟩]
 .simp_all
 . rename_i h1 h2 h3;injection h with h;injection h with h;subst h;split
   .rename_i hv;exact absurd hv h1
   .rename_i b z' off n hv;exact absurd hv (h2 b z' off n)
   .rename_i b hv;exact absurd hv (h3 b)
   .rfl
def zt5:List (Nat×Nat×TypeId)->St->Option (St×List Prop)
 |[],st=>some (st,[])
 |(s,z,e)::r,st=>match pown1 s z e st with
   |none=>none
   |some (st',ps)=>match zt5 r st' with
     |none=>none
     |some (st'',qs)=>some (st'',ps++qs)
def zvm:∀(l:List (Nat×Nat×TypeId)) (st st':St) (ps:aQ),zt5 l st=some (st',ps)->Holds ps->ownAll l st=st'
 |[],st,st',ps,h,_=>by simp[zt5]at h;exact h.1
 |(s,z,e)::r,st,st',ps,h,hh=>by
   simp only[zt5]at h
   cases h1:pown1 s z e st with
   |none=>simp[h1]at h
   |some q =>
     obtain⟨st1,p1⟩:=q;simp only[h1]at h
     cases h2:zt5 r st1 with
     |none=>simp[h2]at h
     |some q=>obtain⟨st2,p2⟩:=q;simp only[zJ,h2]at h;obtain⟨rfl,rfl⟩:=h;rw[zeN]at hh;simp only[ownAll];rw[zNr h1 hh.1];exact zvm r st1 st2 p2 h2 hh.2
def pfr1(bs:aF)(L:aG):Nat->AV->Option (AV×List Prop)
 |0,_=>some (.bot,[])
 |k+1,a=>match a with
   |.loc c z i o=>if bs.contains c then(if((AV.loc c z i o).ids L 5).all bs.contains then psnap L 5 (.loc c z i o)else some (.bot,[]))else some (.loc c z i o,[])
   |.row c z o n=>if bs.contains c then psnap L 5 (.row c z o n)else some (.row c z o n,[])
   |.agg cs=>match mapO (pfr1 bs L k) cs with
     |some l=>some (.agg (l.map (·.1)),l.flatMap (·.2))
     |none=>none
   |.tup cs=>match mapO (pfr1 bs L k) cs with
     |some l=>some (.tup (l.map (·.1)),l.flatMap (·.2))
     |none=>none
   |.fn f cs=>match mapO (pfr1 bs L k) cs with
     |some l=>some (.fn f (l.map (·.1)),l.flatMap (·.2))
     |none=>none
   |.v x=>some (.v x,[])
   |.sl z es=>some (.sl z es,[])
   |.fp cs=>some (.fp cs,[])
   |.map c=>if bs.contains c then psnap L 5 (.map c)else some (.map c,[])
   |.mp es=>some (.mp es,[])
   |.fa z es=>some (.fa z es,[])
   |_=>some (.bot,[])
def mapO_map{α β γ:Type}{g:α->Option γ}{f:α->β}{t:γ->β}:∀{l:List α} {r:List γ},mapO g l=some r->(∀a c,c∈r->g a=some c->f a=t c)->l.map f=r.map t
 |[],r,h,_=>by simp[mapO]at h;subst h;rfl
 |a::l,r,h,hf=>by
   simp only[mapO]at h
   cases hg:g a with
   |none=>simp[hg]at h
   |some c =>
     simp only[hg]at h
     cases hm:mapO g l with
     |none=>simp[hm]at h
     |some l'=>simp only[hm,zaj]at h;subst h;rw[zbX,zbX,hf a c (by simp) hg,mapO_map hm (λa' c' hc=>hf a' c' (by simp[hc]))]
def zIc{bs:aF}{L:aG}:∀(k:Nat) (a a':AV) (ps:aQ),pfr1 bs L k a=some (a',ps)->Holds ps->zf8 bs L k a=a':=by
 intro k
 induction k with
 |zero=>intro a a' ps h _;simp only[zJ,pfr1]at h;exact h.1
 |succ k ih =>
   intro a a' ps h hh
   have lists:∀(cs:aH) (l:List (AV×List Prop)),mapO (pfr1 bs L k) cs=some l->Holds (l.flatMap (·.2))->cs.map (zf8 bs L k)=l.map (·.1):=λcs l hm hl=>mapO_map hm (λa c hc hg=>ih a c.1 c.2 hg (zHW hl c hc))
   cases a with
   |loc c z i o =>
     simp only[pfr1]at h;simp only[zf8];split at h
     . rename_i hc;rw[if_pos hc];split at h
       .rename_i hi;rw[if_pos hi,zk6 5 _ _ _ h hh];rfl
       grind
     simp_all
   |row c z o n =>
     simp only[pfr1]at h;simp only[zf8];split at h
     .rename_i hc;rw[if_pos hc,zk6 5 _ _ _ h hh];rfl
     simp_all
   |agg cs =>
     simp only[pfr1]at h;split at h
     .rename_i l hm;simp only[zJ]at h;obtain⟨rfl,rfl⟩:=h;simp only[zf8];rw[lists cs l hm hh]
     .cases h
   |tup cs =>
     simp only[pfr1]at h;split at h
     .rename_i l hm;simp only[zJ]at h;obtain⟨rfl,rfl⟩:=h;simp only[zf8];rw[lists cs l hm hh]
     .cases h
   |fn f cs =>
     simp only[pfr1]at h;split at h
     .rename_i l hm;simp only[zJ]at h;obtain⟨rfl,rfl⟩:=h;simp only[zf8];rw[lists cs l hm hh]
     .cases h
   |map c =>
     simp only[pfr1]at h;simp only[zf8];split at h
     .rename_i hc;rw[if_pos hc,zk6 5 _ _ _ h hh];rfl
     simp_all
   |_=>simp only[zJ,pfr1]at h;exact h.1
def pfrT(bs:aF)(L:aG):Tab->Option (Tab×List Prop)
 |[]=>some ([],[])
 |(j,a)::r=>match pfr1 bs L 4 a,pfrT bs L r with
   |some (a',ps),some (r',qs)=>some ((j,a')::r',ps++qs)
   |_,_=>none
def zId{bs:aF}{L:aG}:∀(t t':Tab) (ps:aQ),pfrT bs L t=some (t',ps)->Holds ps->zwc bs L t=t'
 |[],t',ps,h,_=>by simp only[zJ,pfrT]at h;exact h.1
 |(j,a)::r,t',ps,h,hh=>by
   simp only[pfrT]at h;split at h
   .rename_i a' p1 r' p2 h1 h2;simp only[zJ]at h;obtain⟨rfl,rfl⟩:=h;rw[zeN]at hh;simp only[zwc];rw[zIc 4 a a' p1 h1 hh.1,zId r r' p2 h2 hh.2]
   .cases h
def pfrCs(bs:aF)(L:aG):List AV->Option (List AV×List Prop)
 |[]=>some ([],[])
 |a::r=>match pfr1 bs L 4 a,pfrCs bs L r with
   |some (a',ps),some (r',qs)=>some (a'::r',ps++qs)
   |_,_=>none
def zE5{bs:aF}{L:aG}:∀(t t':aH) (ps:aQ),pfrCs bs L t=some (t',ps)->Holds ps->t.map (zf8 bs L 4)=t'
 |[],t',ps,h,_=>by simp only[zJ,pfrCs]at h;exact h.1
 |a::r,t',ps,h,hh=>by
   simp only[pfrCs]at h;split at h
   .rename_i a' p1 r' p2 h1 h2;simp only[zJ]at h;obtain⟨rfl,rfl⟩:=h;rw[zeN]at hh;rw[zbX,zIc 4 a a' p1 h1 hh.1,zE5 r r' p2 h2 hh.2]
   .cases h
def pfrE(bs:aF)(L:aG)(e:Ent):Option (Ent×List Prop):=
 match e with
 |⟨z,t,es,b⟩=>match b with
   |true=>(match es with
     |[cs]=>(match pfrCs bs L cs with
       |some (cs',ps)=>some (⟨z,t,[cs'],true⟩,ps)
       |none=>none)
     |_=>none)
   |false=>some (⟨z,t,es,false⟩,[])
def pfrE_sound{bs:aF}{L:aG}{e e':Ent}{ps:aQ}(h:pfrE bs L e=some (e',ps))(hh:Holds ps):(if e.box then{ e with es:=e.es.map λcs=>cs.map (zf8 bs L 4) }else e)=e':=by
 obtain⟨z,t,es,b⟩:=e
 cases b with
 |true =>
   simp only[pfrE]at h;split at h
   . rename_i cs;split at h
     .rename_i cs' p1 h1;simp only[zJ]at h;obtain⟨rfl,rfl⟩:=h;simp only[if_true,zbX,zdH];rw[zE5 cs cs' _ h1 hh]
     .cases h
   .cases h
 |false =>
   simp only[zJ,pfrE]at h
   simp_all
def pfrM(bs:aF)(L:aG):Mem->Option (Mem×List Prop)
 |[]=>some ([],[])
 |(j,e)::r=>if bs.contains j then pfrM bs L r else match pfrE bs L e,pfrM bs L r with
   |some (e',ps),some (r',qs)=>some ((j,e')::r',ps++qs)
   |_,_=>none
def zAV{bs:aF}{L:aG}:∀(m m':Mem) (ps:aQ),pfrM bs L m=some (m',ps)->Holds ps->zr8 bs L m=m'
 |[],m',ps,h,_=>by simp only[zJ,pfrM]at h;exact h.1
 |(j,e)::r,m',ps,h,hh=>by
   simp only[pfrM]at h;simp only[zr8];split at h
   .rename_i hc;rw[if_pos hc];exact zAV r m' ps h hh
   . rename_i hc;rw[if_neg hc];split at h
     .rename_i e' p1 r' p2 h1 h2;simp only[zJ]at h;obtain⟨rfl,rfl⟩:=h;rw[zeN]at hh;rw[pfrE_sound h1 hh.1,zAV r r' p2 h2 hh.2]
     .cases h
def zs0(bs:aF)(st:St):Option (St×List Prop):=
 match bs with
 |[]=>some (st,[])
 |bs=>match pfrT bs (look st.m) st.t,pfrM bs (look st.m) st.m with
   |some (t,ps),some (m,qs)=>some (⟨t,m⟩,ps++qs)
   |_,_=>none
def zw1{bs:aF}{st st':St}{ps:aQ}(h:zs0 bs st=some (st',ps))(hh:Holds ps):zff bs st=st':=by
 cases bs with
 |nil=>simp only[zJ,zs0]at h;exact h.1
 |cons b bs =>
   simp only[zs0]at h;split at h
   .rename_i t p1 m p2 h1 h2;simp only[zJ]at h;obtain⟨rfl,rfl⟩:=h;rw[zeN]at hh;simp only[zff];rw[zId _ _ _ h1 hh.1,zAV _ _ _ h2 hh.2]
   .cases h
def zw2(l:aF)(st:St):Option (St×List Prop):=
 match l with
 |[]=>some (st,[])
 |l=>if(fzIds l st).all (λb=>decide (b<1000)&&(look st.m b).isSome)=true then zs0 (fzIds l st) st else none
def zt4{l:aF}{st st':St}{ps:aQ}(h:zw2 l st=some (st',ps))(hh:Holds ps):zoN l st=st':=by
 unfold zw2 at h;unfold zoN;split at h
 .simp_all
 . split at h
   .rename_i hc;simp only;rw[if_pos hc];exact zw1 h hh
   .cases h
def ptidy(A:Ann)(id:Nat)(st:St):Option (St×List Prop):=
 match zw2 (A.fz id) st with
 |none=>none
 |some (st,p0)=>match zt5 (A.own id) st with
  |none=>none
  |some (st,ps)=>match ztG (A.cel id) st with
   |st=>match A.live id with
    |some l=>match delAll (deadIds { st with t:=zmA l st.t }) { st with t:=zmA l st.t }with
      |⟨t,m⟩=>some (⟨t,sortM m⟩,p0++ps)
    |none=>some (st,p0++ps)
def zE6{A:Ann}{id:Nat}{st st':St}{ps:aQ}(h:ptidy A id st=some (st',ps))(hh:Holds ps):tidy A id st=st':=by
 unfold ptidy at h
 cases h0:zw2 (A.fz id) st with
 |none=>simp[h0]at h
 |some q0 =>
   obtain⟨st0,p0⟩:=q0;simp only[h0]at h
   cases h1:zt5 (A.own id) st0 with
   |none=>simp[h1]at h
   |some q =>
     obtain⟨st1,p1⟩:=q;simp only[h1]at h;unfold tidy;split at h
     .rename_i l hl;simp only[zJ]at h;obtain⟨rfl,rfl⟩:=h;rw[zeN]at hh;simp only;rw[zt4 h0 hh.1,zvm _ _ _ _ h1 hh.2,hl]
     .rename_i hl;simp only[zJ]at h;obtain⟨rfl,rfl⟩:=h;rw[zeN]at hh;simp only;rw[zt4 h0 hh.1,zvm _ _ _ _ h1 hh.2,hl]
inductive It where
 |code (c:Code)
 |inBlock (id:Nat)
 |inLoop (c:Code)
structure Fr where
 P:Program
 C:Cfg
 F:AnnF
 f:FuncId
 fn:Func
 ms:Mem
def Fr.ev(R:Fr)(c:Code)(st:St):Option (Ex×St):=aeval R.P R.C (R.F R.f) R.fn.ntmps (callw R.P R.C R.F) itw c st
def run(R:Fr):List It->Ex->St->Option (AV×Mem)
 |[],e,st=>zsc R.P (R.F R.f).frz R.fn R.ms (some (e,st))
 |.code c::k,.normal,st=>match R.ev c st with
   |some (e,st')=>run R k e st'
   |none=>none
 |.inLoop c::k,.normal,st=>match itw (R.ev c) st with
   |some (e,st')=>run R k e st'
   |none=>none
 |.inBlock id::k,.exit j,st=>if j=id then run R k .normal st else run R k (.exit j) st
 |.inBlock _::k,.normal,st=>run R k .normal st
 |_::k,e,st=>run R k e st
def zzI(R:Fr):∀(k:List It) (st:St),run R k .ret st=zsc R.P (R.F R.f).frz R.fn R.ms (some (.ret,st))
 |[],_=>rfl
 |.code _::k,st=>zzI R k st
 |.inLoop _::k,st=>zzI R k st
 |.inBlock _::k,st=>zzI R k st
def dropTo(id:Nat):List It->Option (List It)
 |[]=>none
 |.inBlock j::k=>if id=j then some k else dropTo id k
 |_::k=>dropTo id k
def zA3(R:Fr)(id:Nat):∀(k k':List It) (st:St),dropTo id k=some k'->run R k (.exit id) st=run R k' .normal st
 |[],k',st,h=>by simp[dropTo]at h
 |.code c::k,k',st,h=>zA3 R id k k' st h
 |.inLoop c::k,k',st,h=>zA3 R id k k' st h
 |.inBlock j::k,k',st,h=>by
   simp only[dropTo]at h;simp only[run];split at h
   .simp_all
   .rename_i hj;rw[if_neg hj];exact zA3 R id k k' st h
def pout(frz:Bool)(m:Mem)(a:AV):Option (AV×List Prop):=
 let L:Nat->Option Ent:=λb=>if b<1000 then look m b else none
 match a with
 |.row b z off n=>if 1000<=b then(if frz=false/\(look m b).isSome=true then some (.row b z off n,[])else none)else match L b with
   |some ent=>if frz=false/\ent.z=z/\off=0/\ent.box=false/\0<z then some (.new z ent.e ent.es,[n=ent.es.length])else if frz=true then psnap L 5 (.row b z off n)else none
   |none=>none
 |.loc b z i o=>match outOf frz m (.loc b z i o)with
   |some r=>some (r,[])
   |none=>none
 |.map b=>match outOf frz m (.map b)with
   |some r=>some (r,[])
   |none=>none
 |a=>psnap L 5 a
def zAW{frz:Bool}{m:Mem}{a r:AV}{ps:aQ}(h:pout frz m a=some (r,ps))(hh:Holds ps):outOf frz m a=some r:=by
 unfold pout at h;simp only at h
 cases a with
 |row b z off n =>
   simp only at h;simp only[outOf];split at h
   .simp_all
   rename_i hge;rw[if_neg hge];split at h
   case h_2=>cases h
   rename_i ent hl;split at h
   .rename_i hc;simp only[zJ]at h;obtain⟨rfl,rfl⟩:=h;rw[hl];simp only;rw[if_pos ⟨hc.1,hc.2.1,hc.2.2.1,hh.1,hc.2.2.2.1,hc.2.2.2.2⟩]
   . split at h
     .rename_i hf;rw[hl];simp only;rw[if_neg (by rw[hf];simp)];exact zk6 5 _ _ _ h hh
     .cases h
 |loc b z i o=>grind
 |map b=>grind
 |_=>exact zk6 5 _ _ _ h hh
def pout1(P:Program)(frz:Bool)(t:TypeId)(m:Mem)(a:AV):Option (AV×List Prop):=
 match a,frz with
 |.v (.slice none 0 0),false=>(match P.underlying t with
   |some (.slice e)=>(match szB P e with
     |some z=>if 0<z then some (.new z e [],[])else none
     |none=>none)
   |_=>none)
 |a,frz=>pout frz m (nrm P t a)
def zNq{P:Program}{frz:Bool}{t:TypeId}{m:Mem}{a r:AV}{ps:aQ}(h:pout1 P frz t m a=some (r,ps))(hh:Holds ps):out1 P frz t m a=some r:=by
 unfold pout1 at h;unfold out1;split at h
 .grind
 . rename_i hne;split
   .simp_all
   .exact zAW h hh
def presult(P:Program)(frz:Bool)(fn:Func)(st:St):Option (AV×List Prop):=
 match mapO (resVar P st) fn.results.toList with
 |some [a]=>pout1 P frz (fn.resultTypes.getD 0 0) st.m a
 |some l=>pout frz st.m (.tup (nrmA P fn.resultTypes.toList l))
 |none=>none
def zK8{P:Program}{frz:Bool}{fn:Func}{st:St}{r:AV}{ps:aQ}(h:presult P frz fn st=some (r,ps))(hh:Holds ps):zjM P frz fn st=some r:=by
 unfold presult at h;unfold zjM
 cases hl:mapO (resVar P st) fn.results.toList with
 |none=>simp[hl]at h
 |some l =>
   simp only[hl]at h
   cases l with
   |nil=>exact zAW h hh
   |cons a l=>cases l with
     |nil=>exact zNq h hh
     |cons b l=>exact zAW h hh
abbrev I(n:Int):AV:=.v (.int .i64 n)
abbrev B(b:Bool):AV:=.v (.bool b)
def liveAt:List (Nat×List Nat)->Nat->Option (List Nat)
 |[],_=>none
 |(j,l)::r,id=>if id=j then some l else liveAt r id
def atReg{α:Type}:List (Nat×List α)->Nat->List α
 |[],_=>[]
 |(j,l)::r,id=>if id=j then l else atReg r id
def heads:Code->List It->List (List It)
 |.seq a b,k=>heads a (.code b::k)++heads b k
 |.cond _ x y,k=>heads x k++heads y k
 |.block id c,k=>heads c (.inBlock id::k)
 |.loop c,k=>(.inLoop c::k)::heads c (.inLoop c::k)
 |_,_=>[]
def ptK(fn:Func)(j:Nat):List It:=
 match fn.body,j with
 |some c,0=>[.code c]
 |some c,j+1=>((heads c [])[j]?).getD []
 |none,_=>[]
end
section
variable[Dr]
structure TyD where
 α:Type
 enc:α->List AV
 dec:List AV->Option α
 ok:∀c x,dec c=some x->c=enc x
 de:∀x,dec (enc x)=some x
structure RD where
 α:Type
 enc:α->AV×Mem
 dec:AV×Mem->Option α
 ok:∀c x,dec c=some x->c=enc x
 de:∀x,dec (enc x)=some x
structure Dic where
 ty:TypeId->TyD
 res:FuncId->RD
section
variable{β:Type}
def brn(b:Bool)(t e:Option β):Option β:=if b=true then t else e
def zww{b:Bool}{t e:Option β}{y:β}(h:brn b t e=some y):(b=true/\t=some y)\/(b=false/\e=some y):=by
 cases b with
 |true=>exact .inl ⟨rfl,h⟩
 |false=>exact .inr ⟨rfl,h⟩
@[simp] theorem zaO(t e:Option β):brn true t e=t:=rfl
@[simp] def zay(t e:Option β):brn false t e=e:=rfl
def zfy(p:Prop)[Decidable p](t e:Option β):brn (decide p) t e=if p then t else e:=by
 unfold brn
 simp_all
def chk(p:Prop)(x:Option β):Option β:=@ite _ p (Classical.propDecidable p) x none
def chkL:List Prop->Option β->Option β
 |[],x=>x
 |p::r,x=>chk p (chkL r x)
def elemD(D:TyD)(es:aI)(i:Nat)(k:D.α->Option β):Option β:=
 match es[i]? with
 |some c=>match D.dec c with
   |some x=>k x
   |none=>none
 |none=>none
def elemP(D:TyD)(es:aI)(i:Nat)(kn:Option β)(kr:Addr->Option β)(kd:D.α->Option β):Option β:=
 match es[i]? with
 |some [.v (.pointer none)]=>kn
 |some [.v (.pointer (some a))]=>kr a
 |some [.fp cs]=>match D.dec cs with
   |some x=>kd x
   |none=>none
 |_=>none
def callD(D:RD)(c:Option (AV×Mem))(k:D.α->Option β):Option β:=
 match c with
 |some r=>match D.dec r with
   |some x=>k x
   |none=>none
 |none=>none
def ziM{p:Prop}{x:Option β}{y:β}(h:chk p x=some y):p/\x=some y:=by
 unfold chk at h
 simp_all
@[simp] def zbp(x:Option β):chk True x=x:=by unfold chk;rw[if_pos trivial]
theorem zar{p:Prop}(h:p)(x:Option β):chk p x=x:=by unfold chk;rw[if_pos h]
def zi9:∀{ps:aQ} {x:Option β} {y:β},chkL ps x=some y->Holds ps/\x=some y
 |[],x,y,h=>⟨trivial,h⟩
 |p::r,x,y,h=>by obtain⟨h1,h2⟩:=ziM h;obtain⟨h3,h4⟩:=zi9 h2;exact⟨⟨h1,h3⟩,h4⟩
def zsC{D:TyD}{es:aI}{i:Nat}{k:D.α->Option β}{y:β}(h:elemD D es i k=some y):∃x,es[i]?=some (D.enc x)/\k x=some y:=by
 unfold elemD at h;split at h
 . rename_i c hc;split at h
   .rename_i x hx;exact⟨x,by rw[hc,D.ok c x hx],h⟩
   .cases h
 .cases h
def elemP_some{D:TyD}{es:aI}{i:Nat}{kn:Option β}{kr:Addr->Option β}{kd:D.α->Option β}{y:β}(h:elemP D es i kn kr kd=some y):(es[i]?=some [.v (.pointer none)]/\kn=some y)\/(∃a,es[i]?=some [.v (.pointer (some a))]/\kr a=some y)\/∃x,es[i]?=some [.fp (D.enc x)]/\kd x=some y:=by
 unfold elemP at h;split at h
 .simp_all
 .simp_all
 . rename_i cs hc;split at h
   .rename_i x hx;exact .inr (.inr ⟨x,by rw[hc,D.ok _ _ hx],h⟩)
   .cases h
 .cases h
def zDe{D:TyD}{es:aI}{i:Nat}{kn:Option β}{kr:Addr->Option β}{kd:D.α->Option β}(h:es[i]?=some [.v (.pointer none)]):elemP D es i kn kr kd=kn:=by unfold elemP;rw[h]
def zJs{D:TyD}{es:aI}{i:Nat}{kn:Option β}{kr:Addr->Option β}{kd:D.α->Option β}{a:Addr}(h:es[i]?=some [.v (.pointer (some a))]):elemP D es i kn kr kd=kr a:=by unfold elemP;rw[h]
def elemP_dat{D:TyD}{es:aI}{i:Nat}{kn:Option β}{kr:Addr->Option β}{kd:D.α->Option β}{x:D.α}(h:es[i]?=some [.fp (D.enc x)]):elemP D es i kn kr kd=kd x:=by unfold elemP;rw[h];simp only[D.de]
def zHm{D:RD}{c:Option (AV×Mem)}{k:D.α->Option β}{y:β}(h:callD D c k=some y):∃x,c=some (D.enc x)/\k x=some y:=by
 unfold callD at h;split at h
 . rename_i r;split at h
   .rename_i x hx;exact⟨x,by rw[D.ok r x hx],h⟩
   .cases h
 .cases h
@[simp] def zb1{D:RD}{x:D.α}(k:D.α->Option β):callD D (some (D.enc x)) k=k x:=by unfold callD;simp only[D.de]
def avEnc(agg:Bool)(D:TyD)(x:D.α):AV:=if agg=true then .agg (D.enc x)else(D.enc x).headD .bot
def avDec(agg:Bool)(D:TyD)(a:AV):Option D.α:=
 if agg=true then(match a with
  |.agg cs=>D.dec cs
  |_=>none)
 else D.dec [a]
def avDec_ok{agg:Bool}{D:TyD}{a:AV}{x:D.α}(h:avDec agg D a=some x):a=avEnc agg D x:=by
 unfold avDec at h;unfold avEnc
 cases agg with
 |true =>
   simp only[if_true]at h ⊢;split at h
   .rw[D.ok _ _ h]
   .cases h
 |false=>simp only[zQ]at h ⊢;rw[<-D.ok _ _ h];rfl
def mapD(P:Program)(kt:TypeId)(agg:Bool)(D:TyD)(z:AV)(es:aI)(key:AV)(k:D.α->Bool->Option β):Option β:=
 match mlook P kt key es with
 |some (some a)=>match avDec agg D a with
   |some x=>k x true
   |none=>none
 |some none=>match avDec agg D z with
   |some x=>k x false
   |none=>none
 |none=>none
def mapD_some{P:Program}{kt:TypeId}{agg:Bool}{D:TyD}{z:AV}{es:aI}{key:AV}{k:D.α->Bool->Option β}{y:β}(h:mapD P kt agg D z es key k=some y):(∃a x,mlook P kt key es=some (some a)/\a=avEnc agg D x/\k x true=some y)\/(∃x,mlook P kt key es=some none/\z=avEnc agg D x/\k x false=some y):=by
 unfold mapD at h;split at h
 . rename_i a hm;split at h
   .rename_i x hx;exact .inl ⟨a,x,hm,avDec_ok hx,h⟩
   .cases h
 . rename_i hm;split at h
   .rename_i x hx;exact .inr ⟨x,hm,avDec_ok hx,h⟩
   .cases h
 .cases h
def msetD(P:Program)(kt _et:TypeId)(key v:AV)(es:aI)(k:List (List AV)->Option β):Option β:=
 match mset P kt key v es with
 |some es'=>k es'
 |none=>none
def msetD_some{P:Program}{kt et:TypeId}{key v:AV}{es:aI}{k:List (List AV)->Option β}{y:β}(h:msetD P kt et key v es k=some y):∃es',mset P kt key v es=some es'/\k es'=some y:=by
 unfold msetD at h
 grind
def mdelD(P:Program)(kt:TypeId)(key:AV)(es:aI)(k:List (List AV)->Option β):Option β:=
 match mdel P kt key es with
 |some es'=>k es'
 |none=>none
def mdelD_some{P:Program}{kt:TypeId}{key:AV}{es:aI}{k:List (List AV)->Option β}{y:β}(h:mdelD P kt key es k=some y):∃es',mdel P kt key es=some es'/\k es'=some y:=by
 unfold mdelD at h
 grind
def force1(a:AV)(k:AV->Option β):Option β:=
 match a with
 |.bot=>k .bot
 |.v (.int t n)=>k (.v (.int t n))
 |.v (.bool b)=>k (.v (.bool b))
 |.v x=>k (.v x)
 |.sl z es=>k (.sl z es)
 |.agg cs=>k (.agg cs)
 |.tup cs=>k (.tup cs)
 |.fp cs=>k (.fp cs)
 |.loc b z i o=>k (.loc b z i o)
 |.row b z i o=>k (.row b z i o)
 |.fn f cs=>k (.fn f cs)
 |.new z e es=>k (.new z e es)
 |.newp z e cs=>k (.newp z e cs)
 |.map b=>k (.map b)
 |.mp es=>k (.mp es)
 |.newm e es=>k (.newm e es)
 |.fa z es=>k (.fa z es)
def zJv(a:AV)(k:AV->Option β):force1 a k=k a:=by unfold force1;split<;>rfl
def forceL:List AV->(List AV->Option β)->Option β
 |[],k=>k []
 |a::r,k=>force1 a λa=>forceL r λr=>k (a::r)
def zDi:∀(l:aH) (k:List AV->Option β),forceL l k=k l
 |[],_=>rfl
 |a::r,k=>by simp only[forceL,zJv,zDi r]
def force2(a:AV)(k:AV->Option β):Option β:=
 match a with
 |.agg cs=>forceL cs λcs=>k (.agg cs)
 |.fp cs=>forceL cs λcs=>k (.fp cs)
 |a=>force1 a k
def zJw(a:AV)(k:AV->Option β):force2 a k=k a:=by unfold force2;split<;>simp only[zDi,zJv]
def forceT:List AV->(List AV->Option β)->Option β
 |[],k=>k []
 |a::r,k=>force2 a λa=>forceT r λr=>k (a::r)
def zJx:∀(l:aH) (k:List AV->Option β),forceT l k=k l
 |[],_=>rfl
 |a::r,k=>by simp only[forceT,zJw,zJx r]
def force3(a:AV)(k:AV->Option β):Option β:=
 match a with
 |.tup cs=>forceT cs λcs=>k (.tup cs)
 |a=>force2 a k
def force3_eq(a:AV)(k:AV->Option β):force3 a k=k a:=by unfold force3;split<;>simp only[zJx,zJw]
def zAI:Tab->(Tab->Option β)->Option β
 |[],k=>k []
 |(j,a)::r,k=>force3 a λa=>zAI r λr=>k ((j,a)::r)
def zEU:∀(l:Tab) (k:Tab->Option β),zAI l k=k l
 |[],_=>rfl
 |(j,a)::r,k=>by simp only[zAI,force3_eq,zEU r]
def zGg(e:Ent)(k:Ent->Option β):Option β:=
 match e with
 |⟨z,e,es,true⟩=>(match es with
   |[cs]=>forceL cs λcs=>k ⟨z,e,[cs],true⟩
   |es=>k ⟨z,e,es,true⟩)
 |⟨z,e,es,false⟩=>k ⟨z,e,es,false⟩
def zNb(e:Ent)(k:Ent->Option β):zGg e k=k e:=by
 unfold zGg;split
 .split<;>simp only[zDi]
 .rfl
def zAH:Mem->(Mem->Option β)->Option β
 |[],k=>k []
 |(j,e)::r,k=>zGg e λe=>zAH r λr=>k ((j,e)::r)
def zET:∀(l:Mem) (k:Mem->Option β),zAH l k=k l
 |[],_=>rfl
 |(j,e)::r,k=>by simp only[zAH,zNb,zET r]
def force(st:St)(k:St->Option β):Option β:=zAI st.t λt=>zAH st.m λm=>k ⟨t,m⟩
def ztX(st:St)(k:St->Option β):force st k=k st:=by unfold force;rw[zEU,zET]
def setB(d:Nat)(x:Bool):Tab->Tab
 |[]=>[]
 |(j,a)::r=>if d=j then(j,.v (.bool x))::r else(j,a)::setB d x r
def zxS{d:Nat}{x:Bool}:∀{t:Tab},get t d=.v (.bool x)->setB d x t=t
 |[],h=>by simp[get]at h
 |(j,a)::r,h=>by
   simp only[get]at h;simp only[setB];split
   .simp_all
   .rename_i hj;rw[if_neg hj]at h;rw[zxS h]
def tWant(ops:aK)(o:Oper)(t:Tab)(k:Bool->Tab->Option β):Option β:=
 match o.guard with
 |none=>k true t
 |some (j,want)=>match(ops[j]?).bind (·.dst)with
   |some d=>match get t d with
     |.v (.bool b)=>brn b (k (true==want) (setB d true t)) (k (false==want) (setB d false t))
     |.v (.tuple _)=>k false t
     |_=>none
   |none=>none
def zNE{ops:aK}{o:Oper}{t:Tab}{k:Bool->Tab->Option β}{y:β}(h:tWant ops o t k=some y):∃b,zwg ops o t=some b/\k b t=some y:=by
 unfold tWant at h;unfold zwg
 cases hg:o.guard with
 |none=>simp_all
 |some q =>
   obtain⟨j,want⟩:=q;simp only[hg]at h ⊢
   cases hd:(ops[j]?).bind (·.dst)with
   |none=>simp[hd]at h
   |some d =>
     simp only[hd]at h ⊢;split at h
     . rename_i b hb;rw[hb];rcases zww h with⟨rfl,h⟩|⟨rfl,h⟩
       .rw[zxS hb]at h;exact⟨_,rfl,h⟩
       .rw[zxS hb]at h;exact⟨_,rfl,h⟩
     .simp_all
     .cases h
def elemE(P:Program)(T:Dic)(e:TypeId)(es:aI)(i:Nat)(k:List AV->Option β):Option β:=
 match P.underlying e with
 |some (.pointer t)=>elemP (T.ty t) es i (k [.v (.pointer none)]) (λa=>k [.v (.pointer (some a))]) (λx=>k [.fp ((T.ty t).enc x)])
 |_=>elemD (T.ty e) es i λx=>k ((T.ty e).enc x)
def zHO{P:Program}{T:Dic}{e:TypeId}{es:aI}{i:Nat}{k:List AV->Option β}{y:β}(h:elemE P T e es i k=some y):∃cs,es[i]?=some cs/\k cs=some y:=by
 unfold elemE at h;split at h
 . rcases elemP_some h with⟨h1,h2⟩|⟨a,h1,h2⟩|⟨x,h1,h2⟩
   .exact⟨_,h1,h2⟩
   .exact⟨_,h1,h2⟩
   grind
 .obtain⟨x,h1,h2⟩:=zsC h;exact⟨_,h1,h2⟩
def tPlain(x:Option Res)(k:Res->Option β):Option β:=
 match x with
 |some r=>k r
 |none=>none
def tCond(x:Option (Res×List Prop))(k:Res->Option β):Option β:=
 match x with
 |some (r,ps)=>chkL ps (k r)
 |none=>none
def altF(C:Cfg)(f:FuncId)(ms:Mem):FuncId:=if ms.isEmpty&&!(C.wrt f).isEmpty then f+100000 else f
def tCall(P:Program)(C:Cfg)(F:AnnF)(T:Dic)(L:aG)(d:aR)(f:FuncId)(args:aH)(k:Res->Option β):Option β:=
 match zsd L (C.wrt f) 0 args with
 |none=>none
 |some ((bc,ms,bk,fz),ps) =>
   if bk.all (λp=>fz.all (λb=>b≠p.1))=true then
    chkL ps (callD (T.res (altF C f ms)) (callw P C F f bc ms) λy =>
     match(T.res (altF C f ms)).enc y with
     |(r,ms')=>match backOf ms' (zjw bk)with
       |none=>none
       |some back =>
         if(frzOf r bk fz).all (λb=>decide (b<1000))=true then
          tPlain (zwb back (zjw bk) (frzOf r bk fz) r d) λres=>tPlain (zBf (zdQ bk) res) k
         else none)
   else none
def tDeep(P:Program)(C:Cfg)(F:AnnF)(T:Dic)(L:aG)(f:FuncId)(k0:Nat)(args:aH)(k:Res->Option β):Option β:=
 match args[k0]? with
 |some (.loc b z 0 0)=>match L b with
   |some ent=>if ent.box=true then(match ent.es with
     |[cs]=>match pnest L 900 cs,pdArgs L k0 (.loc 1000 z 0 0) 0 args with
       |some ((cs',nms,nbk),ps),some ((bc,fz),qs) =>
         if ent.z=z/\ent.box=true/\nbk.all (λp=>p.1≠b)=true/\fz.all (λc=>decide (c<1000)&&(c !=b&&nbk.all (λp=>p.1≠c)))=true then
          chkL ps (chkL qs (callD (T.res f) (callw P C F f bc ((1000,{ ent with es:=[cs'] })::nms)) λy =>
           match(T.res f).enc y with
           |(r,ms')=>tPlain (dRes b fz nbk r ms') k))
         else none
       |_,_=>none
     |_=>none)else none
   |none=>none
 |_=>none
def pk{α:Type}(t:Bool)(x y:α):α:=if t=true then x else y
def setE(E:aU)(j:Nat)(a:AV):Operand->AV
 |.tmp i=>if i=j then a else E (.tmp i)
 |x=>E x
def zJT{E:aU}{j:Nat}{a:AV}(h:E (.tmp j)=a):setE E j a=E:=by
 funext x;unfold setE
 grind
def rowTy(P:Program)(ent:Ent):TypeId:=
 match P.underlying ent.e with
 |some (.array _ e)=>if szB P e=some ent.z then e else ent.e
 |_=>ent.e
def tBare(P:Program)(C:Cfg)(M:aF)(o:Oper)(args:List Operand)(E:aU)(L:aG)(k:Res->Option β):Option β:=
 match args with
 |[_,_,.tmp j]=>(match E (.tmp j)with
   |.v (.int kd c)=>brn (c==0) (tPlain (aop P C M noCall o (setE E j (.v (.int kd 0))) L) k) (brn (c==1) (tPlain (aop P C M noCall o (setE E j (.v (.int kd 1))) L) k) none)
   |_=>tPlain (aop P C M noCall o E L) k)
 |_=>tPlain (aop P C M noCall o E L) k
def tMSet(P:Program)(_T:Dic)(L:aG)(t:TypeId)(m key x:AV)(k:Res->Option β):Option β:=
 match P.underlying t with
 |some (.map kt et)=>match m with
   |.map b=>match L b with
     |some ent=>if ent.z=0/\ent.box=false/\keyAV P kt key=true/\(x.ids L 5).all (λc=>decide (c<1000)&&(c !=b))=true then
       (match psnap L 5 (nrm P et x)with
       |some (x',ps)=>if x'.isC 4=true then chkL ps (msetD P kt et key x' ent.es λes=>k { val:=.bot,set:=[(b,{ ent with es:=es })],frz:=x.ids L 5 })else none
       |none=>none)else none
     |none=>none
   |_=>none
 |_=>none
def tOp(P:Program)(C:Cfg)(F:AnnF)(T:Dic)(M:aF)(o:Oper)(E:aU)(L:aG)(k:Res->Option β):Option β:=
 match o.op with
 |.binOp op _ x y _=>match E x,E y with
   |.v (.int kd a),.v (.int kd' b)=>match pInt op kd kd' a b with
     |some (v,ps)=>chkL ps (k { val:=v })
     |none=>tPlain (aop P C M noCall o E L) k
   |_,_=>tPlain (aop P C M noCall o E L) k
 |.pick c a b=>match E c,E a,E b with
   |.v (.bool t),.v (.bool x),.v (.bool y)=>k { val:=.v (.bool (pk t x y)) }
   |.v (.bool t),a,b=>brn t (k { val:=a }) (k { val:=b })
   |_,_,_=>none
 |.load t a=>match E a with
   |.loc b z i off=>match L b with
     |some ent=>match ent.box with
       |true=>tPlain (aop P C M noCall o E L) k
       |false=>if ent.z=z/\0<ent.z then elemE P T (rowTy P ent) ent.es i λx=>match readAt P t (x.drop off)with
         |some v=>k { val:=v }
         |none=>none
         else none
     |none=>none
   |_=>tPlain (aop P C M noCall o E L) k
 |.store t a x=>match E a with
   |.loc b z i off=>match L b with
     |some ent=>match ent.box with
       |true=>tPlain (aop P C M noCall o E L) k
       |false=>match szB P t with
         |some n=>if(ent.z=z/\0<ent.z)/\(nrm P t (E x)).cells.length=n/\allL AV.one (nrm P t (E x)).cells=true/\allL (AV.isC 4) (nrm P t (E x)).cells=true then
           elemD (T.ty (rowTy P ent)) ent.es i λy=>if off+n<=((T.ty (rowTy P ent)).enc y).length then k { val:=.bot,set:=[(b,{ ent with es:=ent.es.set i (splice ((T.ty (rowTy P ent)).enc y) off (nrm P t (E x)).cells) })] }else none
           else none
         |none=>none
     |none=>none
   |_=>none
 |.indexAddr t x ix=>match E x,E ix with
   |.sl z es,.v (.int _ n)=>match P.underlying t with
     |some (.slice e)=>match szB P e with
       |some sz=>if z=sz then chk (0<=n) (elemD (T.ty e) es n.toNat λx=>k { val:=.fp ((T.ty e).enc x) })else none
       |none=>none
     |_=>none
   |.row b z off len,.v (.int _ n)=>match P.underlying t with
     |some (.slice e)=>match szB P e with
       |some sz=>if z=sz then chk (0<=n) (chk (n<(len:Int)) (k { val:=.loc b z (off+n.toNat) 0 }))else none
       |none=>none
     |_=>none
   |.loc b z i off,.v (.int _ n)=>match P.underlying t with
     |some (.array len e)=>match szB P e with
       |some sz=>if z=sz/\off=0 then chk (0<=n) (chk (n<(len:Int)) (k { val:=.loc b z (i+n.toNat) 0 }))else tPlain (aop P C M noCall o E L) k
       |none=>none
     |_=>none
   |.fa z es,.v (.int _ n)=>match P.underlying t with
     |some (.array len e)=>match szB P e with
       |some sz=>if z=sz then chk (0<=n) (chk (n<(len:Int)) (elemE P T e es n.toNat λx=>k { val:=.fp x }))else none
       |none=>none
     |_=>none
   |.fp cs,.v (.int _ n)=>(match ix,P.underlying t with
     |.tmp _,some (.array len e)=>(match szB P e with
       |some sz=>chk (0<=n) (chk (n<(len:Int)) (elemD (T.ty e) (chunk sz len cs) n.toNat λx=>k { val:=.fp ((T.ty e).enc x) }))
       |none=>none)
     |_,_=>tPlain (aop P C M noCall o E L) k)
   |_,_=>tPlain (aop P C M noCall o E L) k
 |.index t x ix=>match ix,E x,E ix with
   |.tmp _,.agg cs,.v (.int _ n)=>(match P.underlying t with
     |some (.array len e)=>(match szB P e with
       |some sz=>if cs.length=len*sz then
         chk (0<=n) (chk (n<(len:Int)) (elemD (T.ty e) (chunk sz len cs) n.toNat λx=>match readAt P e ((T.ty e).enc x)with
          |some v=>k { val:=v }
          |none=>none))
         else none
       |none=>none)
     |_=>none)
   |.tmp _,.v (.string s),.v (.int _ n)=>(match P.underlying t with
     |some .string=>chk (0<=n) (chk (n<(s.size:Int)) (k { val:=.v (.int .u8 (strAt s n)) }))
     |_=>none)
   |_,_,_=>tPlain (aop P C M noCall o E L) k
 |.slice t x lo hi none=>match E x with
   |.v _=>tPlain (aop P C M noCall o E L) k
   |a=>tCond (pSlice P t a (lo.map E) (hi.map E)) k
 |.makeSlice t l c=>match o.dst with
   |some d=>if(L d).isNone=true then(if M.contains d=true then tPlain (aop P C M noCall o E L) k else tCond (pMake P d t (E l) (E c)) k)else none
   |none=>none
 |.call { callee:=.builtin .append,args,argTypes }=>match o.dst,args.toList,argTypes.toList with
   |some d,[s,x],[t,t']=>if t=t'/\(L d).isNone=true then tCond (pAppend P L d t (E s) (E x)) k else none
   |_,_,_=>none
 |.call { callee:=.builtin .copy,args,argTypes }=>match args.toList,argTypes.toList with
   |[s,x],t::_=>tCond (pCopy P L t (E s) (E x)) k
   |_,_=>none
 |.call { callee:=.builtin .clear,args,argTypes }=>match args.toList,argTypes.toList with
   |[s],t::_=>tCond (pClear P L t (E s)) k
   |_,_=>none
 |.call { callee:=.builtin .delete,args,argTypes }=>match args.toList,argTypes.toList with
   |[m,kk],t::_=>(match P.underlying t with
     |some (.map kt _)=>(match E m with
       |.map b=>(match L b with
         |some ent=>if ent.z=0/\ent.box=false/\keyAV P kt (E kk)=true then mdelD P kt (E kk) ent.es λes=>k { val:=.tup [],set:=[(b,{ ent with es:=es })] }else none
         |none=>none)
       |_=>none)
     |_=>none)
   |_,_=>none
 |.lookup t m kk ok=>match P.underlying t with
   |some (.map kt et)=>(match mesOf L (E m),zeroA P et with
     |some es,some z=>if keyAV P kt (E kk)=true then mapD P kt ((isAggB P et).getD false) (T.ty et) z es (E kk) λx b=>k { val:=mres ok (avEnc ((isAggB P et).getD false) (T.ty et) x) b }else none
     |_,_=>none)
   |_=>none
 |.mapUpdate t m kk x=>tMSet P T L t (E m) (E kk) (E x) k
 |.insert t m kk x=>tMSet P T L t (E m) (E kk) (E x) k
 |.call { callee:=.value g,args,argTypes }=>match E g with
   |.fn f cap=>if bare P f then tBare P C M o args.toList E L k else match o.dst with
     |some d=>(match C.dp f with
       |some k0=>if dstOut L (some d)=true then tDeep P C F T L f k0 (nrmA P (rawT C f argTypes) (args.toList.map E)++cap) k else none
       |none=>if(L d).isNone=true then tCall P C F T L (some d) f (nrmA P (rawT C f argTypes) (args.toList.map E)++cap) λr=>tPlain (toKill (M.contains d) r) k else none)
     |none=>(match C.dp f with
       |some k0=>tDeep P C F T L f k0 (nrmA P (rawT C f argTypes) (args.toList.map E)++cap) k
       |none=>tCall P C F T L none f (nrmA P (rawT C f argTypes) (args.toList.map E)++cap) k)
   |_=>none
 |_=>tPlain (aop P C M noCall o E L) k
def zNs{P:Program}{e:TypeId}{sz:Nat}{l:aH}{v:AV}(hs:szB P e=some sz)(h:readAt P e (l.take sz)=some v):readAt P e l=some v:=by
 unfold readAt at h ⊢
 grind
def zrf{x:Option Res}{k:Res->Option β}{y:β}(h:tPlain x k=some y):∃r,x=some r/\k r=some y:=by
 unfold tPlain at h
 grind
def zs3{x:Option (Res×List Prop)}{k:Res->Option β}{y:β}(h:tCond x k=some y):∃r ps,x=some (r,ps)/\Holds ps/\k r=some y:=by
 unfold tCond at h;split at h
 . obtain⟨h1,h2⟩:=zi9 h
   grind
 .cases h
variable{P:Program}{C:Cfg}{F:AnnF}{T:Dic}{M:aF}
def zFa{L:aG}{d:aR}{f:FuncId}{args:aH}{k:Res->Option β}{y:β}
  (h:tCall P C F T L d f args k=some y):∃r,aCall C (callw P C F) L d f args=some r/\k r=some y:=by
 unfold tCall at h;split at h
 case h_1=>cases h
 rename_i bc ms bk fz ps hp;split at h
 case isFalse=>cases h
 rename_i hd;obtain⟨hh,h1⟩:=zi9 h;obtain⟨x,hx,h2⟩:=zHm h1;split at h2;rename_i r ms' he;split at h2
 case h_1=>cases h2
 rename_i back hb;split at h2
 case isFalse=>cases h2
 rename_i hf;obtain⟨res,hr,h3⟩:=zrf h2;obtain⟨res2,hr2,h4⟩:=zrf h3;refine⟨res2,?_,h4⟩;unfold aCall;rw[zpo args 0 _ _ hp hh]
 grind
def zFb{L:aG}{f:FuncId}{k0:Nat}{args:aH}{k:Res->Option β}{y:β}
  (h:tDeep P C F T L f k0 args k=some y):∃r,aDeep (callw P C F) L f k0 args=some r/\k r=some y:=by
 unfold tDeep at h;split at h
 case h_2=>cases h
 rename_i b z hk0;split at h
 case h_2=>cases h
 rename_i ent hlb;split at h
 case isFalse=>cases h
 rename_i hbx;split at h
 case h_2=>cases h
 rename_i cs hes;split at h
 case h_2=>cases h
 rename_i cs' nms nbk ps bc fz qs hnest hda;split at h
 case isFalse=>cases h
 rename_i hcond;obtain⟨hh1,h1⟩:=zi9 h;obtain⟨hh2,h2⟩:=zi9 h1;obtain⟨x,hx,h3⟩:=zHm h2;split at h3;rename_i r ms' he;obtain⟨res,hr,h4⟩:=zrf h3;refine⟨res,?_,h4⟩;unfold aDeep;simp only[hk0,hlb];rw[if_pos hbx,hes];simp only[zui _ _ _ _ hnest hh1,zw0 _ _ _ _ hda hh2]
 grind
def zFc{L:aG}{t:TypeId}{m key x:AV}{k:Res->Option β}{y:β}(h:tMSet P T L t m key x k=some y):∃r,aMSet P L t m key x=some r/\k r=some y:=by
 unfold tMSet at h;split at h
 case h_2=>cases h
 rename_i kt et hu;split at h
 case h_2=>cases h
 rename_i b;split at h
 case h_2=>cases h
 rename_i ent hl;split at h
 case isFalse=>cases h
 rename_i hc;split at h
 case h_2=>cases h
 rename_i x' ps hp;split at h
 case isFalse=>cases h
 rename_i hC;obtain⟨hh,h1⟩:=zi9 h;obtain⟨es,h2,h3⟩:=msetD_some h1;refine⟨_,?_,h3⟩;unfold aMSet;simp only[hu,hl];rw[if_pos hc,zk6 5 _ _ _ hp hh]
 simp_all
def tOp_sound{o:Oper}{E:aU}{L:aG}{k:Res->Option β}{y:β}(h:tOp P C F T M o E L k=some y):∃r,aop P C M (callw P C F) o E L=some r/\k r=some y:=by
 have plain:tPlain (aop P C M noCall o E L) k=some y->∃r,aop P C M (callw P C F) o E L=some r/\k r=some y:=by intro h;obtain⟨r,h1,h2⟩:=zrf h;exact⟨r,aop_mono (noCall_le _) h1,h2⟩
 unfold tOp at h;split at h
 . rename_i op t x z u ho;split at h
   . rename_i kd a kd' b hx hy;split at h
     . rename_i v ps hp;obtain⟨hh,h1⟩:=zi9 h;refine⟨_,?_,h1⟩;have:=pInt_sound (P:=P) ho hx hy hp hh;unfold aop;simp only[ho,hx,hy]
       have hnc:nilCmp P op t (.v (.int kd a)) (.v (.int kd' b))=none:=by unfold nilCmp;split<;>simp_all
       simp_all
     .exact plain h
   .exact plain h
 . rename_i c a b ho;split at h
   .rename_i t x z hc ha hb;refine⟨_,?_,h⟩;unfold aop;simp only[ho,hc,ha,hb,pk];cases t<;>rfl
   . rename_i t hc _;unfold aop;simp only[ho,hc];rcases zww h with⟨rfl,h⟩|⟨rfl,h⟩
     .exact⟨_,rfl,h⟩
     grind
   .cases h
 . rename_i t a ho;split at h
   . rename_i b z i off ha;split at h
     case h_2=>cases h
     rename_i ent hl;split at h
     .exact plain h
     . rename_i hbx;split at h
       case isFalse=>cases h
       rename_i hz;obtain⟨x,hx,h1⟩:=zHO h;split at h1
       case h_2=>cases h1
       rename_i v hv;refine⟨_,?_,h1⟩;unfold aop;simp only[ho,ha,aLoad,hl]
       grind
   .exact plain h
 . rename_i t a x ho;split at h
   . rename_i b z i off ha;split at h
     case h_2=>cases h
     rename_i ent hl;split at h
     .exact plain h
     . rename_i hbx;split at h
       case h_2=>cases h
       rename_i n hs;split at h
       case isFalse=>cases h
       rename_i hc;obtain⟨u,hu,h1⟩:=zsC h;split at h1
       case isFalse=>cases h1
       rename_i hlen;refine⟨_,?_,h1⟩;unfold aop;simp only[ho,ha,nrmS,hl,hbx,aStore,hs]
       grind
   .cases h
 . rename_i t x ix ho;split at h
   . rename_i z es kd n hx hi;split at h
     case h_2=>cases h
     rename_i e hu;split at h
     case h_2=>cases h
     rename_i sz hs;split at h
     case isFalse=>cases h
     rename_i hz;obtain⟨h0,h1⟩:=ziM h;obtain⟨u,hu',h2⟩:=zsC h1;refine⟨_,?_,h2⟩;unfold aop;simp only[ho,hx,hi,aIndex,hu,hs]
     simp_all
   . rename_i b z off len kd n hx hi;split at h
     case h_2=>cases h
     rename_i e hu;split at h
     case h_2=>cases h
     rename_i sz hs;split at h
     case isFalse=>cases h
     rename_i hz;obtain⟨h0,h1⟩:=ziM h;obtain⟨h2,h3⟩:=ziM h1;refine⟨_,?_,h3⟩;unfold aop;simp only[ho,hx,hi,aIndex,hu,hs]
     simp_all
   . rename_i b z i off kd n hx hi;split at h
     case h_2=>cases h
     rename_i len e hu;split at h
     case h_2=>cases h
     rename_i sz hs;split at h
     case isFalse=>exact plain h
     rename_i hz;obtain⟨h0,h1⟩:=ziM h;obtain⟨h2,h3⟩:=ziM h1;refine⟨_,?_,h3⟩;unfold aop;simp only[ho,hx,hi,aIndex,hu,hs]
     simp_all
   . rename_i z es kd n hx hi;split at h
     case h_2=>cases h
     rename_i len e hu;split at h
     case h_2=>cases h
     rename_i sz hs;split at h
     case isFalse=>cases h
     rename_i hz;obtain⟨h0,h1⟩:=ziM h;obtain⟨h2,h3⟩:=ziM h1;obtain⟨u,hu',h4⟩:=zHO h3;refine⟨_,?_,h4⟩;unfold aop;simp only[ho,hx,hi,aIndex,hu,hs]
     simp_all
   . rename_i cs kd n hx hi;split at h
     case h_2=>exact plain h
     rename_i jx len e hu;split at h
     case h_2=>cases h
     rename_i sz hs;obtain⟨h0,h1⟩:=ziM h;obtain⟨h2,h3⟩:=ziM h1;obtain⟨u,hu',h4⟩:=zsC h3;refine⟨_,?_,h4⟩;have hlt:n.toNat<len:=by omega
     rw[zr1 len cs n.toNat hlt]at hu';injection hu' with hu';unfold aop;simp only[ho,hx,hi,aIndex,hu,hs]
     simp_all
   .exact plain h
 . rename_i t x ix ho;split at h
   . rename_i jx cs kd n hx hi;split at h
     case h_2=>cases h
     rename_i len e hu;split at h
     case h_2=>cases h
     rename_i sz hs;split at h
     case isFalse=>cases h
     rename_i hlen;obtain⟨h0,h1⟩:=ziM h;obtain⟨h2,h3⟩:=ziM h1;obtain⟨u,hu',h4⟩:=zsC h3;split at h4
     case h_2=>cases h4
     rename_i v hv;refine⟨_,?_,h4⟩;have hlt:n.toNat<len:=by omega
     rw[zr1 len cs n.toNat hlt]at hu';injection hu' with hu';rw[<-hu']at hv;unfold aop;simp only[ho,hx,hi,hu,hs];rw[if_pos ⟨h0,h2⟩,zNs hs hv]
   . rename_i jx s kd n hx hi;split at h
     case h_2=>cases h
     rename_i hu;obtain⟨h0,h1⟩:=ziM h;obtain⟨h2,h3⟩:=ziM h1;refine⟨_,?_,h3⟩;unfold aop;simp only[ho,hx,hi,hu];exact zNy ho hx hi hu h0 h2
   .exact plain h
 . rename_i t x lo hi ho;split at h
   .exact plain h
   . rename_i hne;obtain⟨r,ps,h1,h2,h3⟩:=zs3 h;have:=zMq h1 h2;refine⟨r,?_,h3⟩;unfold aop
     simp_all
 . rename_i t l c ho;split at h
   case h_2=>cases h
   rename_i d hd;split at h
   case isFalse=>cases h
   rename_i hn;split at h
   .exact plain h
   rename_i hnm;obtain⟨r,ps,h1,h2,h3⟩:=zs3 h;have:=zNp h1 h2;refine⟨r,?_,h3⟩;unfold aop
   simp_all
 . rename_i args argTypes ho;split at h
   case h_2=>cases h
   rename_i d s x t t' hd ha ht;split at h
   case isFalse=>cases h
   rename_i hn;obtain⟨r,ps,h1,h2,h3⟩:=zs3 h;have:=zK7 h1 h2;refine⟨r,?_,h3⟩;unfold aop
   simp_all
 . rename_i args argTypes ho;split at h
   case h_2=>cases h
   rename_i s x t tr ha ht;obtain⟨r,ps,h1,h2,h3⟩:=zs3 h;have:=zNo h1 h2;refine⟨r,?_,h3⟩;unfold aop
   simp_all
 . rename_i args argTypes ho;split at h
   case h_2=>cases h
   rename_i s t tr ha ht;obtain⟨r,ps,h1,h2,h3⟩:=zs3 h;have:=zMp h1 h2;refine⟨r,?_,h3⟩;unfold aop
   simp_all
 . rename_i args argTypes ho;split at h
   case h_2=>cases h
   rename_i m kk t tr ha ht;split at h
   case h_2=>cases h
   rename_i kt et hu;split at h
   case h_2=>cases h
   rename_i b hm;split at h
   case h_2=>cases h
   rename_i ent hl;split at h
   case isFalse=>cases h
   rename_i hc;obtain⟨es,h1,h2⟩:=mdelD_some h;refine⟨_,?_,h2⟩;unfold aop;simp only[ho,ha,ht,aMDel,hu,hm,hl];rw[if_pos hc,h1]
 . rename_i t m kk ok ho;split at h
   case h_2=>cases h
   rename_i kt et hu;split at h
   case h_2=>cases h
   rename_i es z hes hz;split at h
   case isFalse=>cases h
   rename_i hk;rcases mapD_some h with⟨a,x,h1,h2,h3⟩|⟨x,h1,h2,h3⟩
   . refine⟨_,?_,h3⟩;unfold aop;simp only[ho,aMLook,hu,hes,hz]
     simp_all
   . refine⟨_,?_,h3⟩;unfold aop;simp only[ho,aMLook,hu,hes,hz]
     simp_all
 . rename_i t m kk x ho;obtain⟨r,h1,h2⟩:=zFc h;refine⟨r,?_,h2⟩;unfold aop
   simp_all
 . rename_i t m kk x ho;obtain⟨r,h1,h2⟩:=zFc h;refine⟨r,?_,h2⟩;unfold aop
   simp_all
 . rename_i g args argTypes ho;split at h
   case h_2=>cases h
   rename_i f cap hg;split at h
   . unfold tBare at h;split at h
     . rename_i j;split at h
       . rename_i kd c hj;rcases zww h with⟨hc,h⟩|⟨_,h⟩
         .rw[zJT (by simp_all)]at h;exact plain h
         . rcases zww h with⟨hc,h⟩|⟨_,h⟩
           .rw[zJT (by simp_all)]at h;exact plain h
           .cases h
       .exact plain h
     .exact plain h
   . rename_i hb;split at h
     . rename_i d hd;split at h
       . rename_i k0 hdp;split at h
         case isFalse=>cases h
         rename_i hdo;obtain⟨r,h1,h2⟩:=zFb h;refine⟨r,?_,h2⟩;unfold aop
         simp_all
       . rename_i hdp;split at h
         case isFalse=>cases h
         rename_i hn;obtain⟨r0,h1,h2⟩:=zFa h;obtain⟨r,h3,h4⟩:=zrf h2;refine⟨r,?_,h4⟩;unfold aop
         simp_all
     . rename_i hd;split at h
       .rename_i k0 hdp;obtain⟨r,h1,h2⟩:=zFb h;refine⟨r,?_,h2⟩;unfold aop;simp only[ho,hg,hd,hdp];rw[if_neg hb,if_pos (show dstOut L none=true from rfl)];exact h1
       . rename_i hdp;obtain⟨r,h1,h2⟩:=zFa h;refine⟨r,?_,h2⟩;unfold aop
         simp_all
 .exact plain h
variable{N:Nat}{ops:aK}
def applyR2(dst:aR)(r:Res)(st:St):St:=
 let st2:=match r.kill with
  |some b=>del b st
  |none=>st
 let st3:=delAll r.re st2
 { t:=putO dst r.val st3.t,m:=setAll r.set st3.m }
def tApply(dst:aR)(r:Res)(st:St)(k:St->Option β):Option β:=
 match zs0 r.frz st with
 |some (st1,ps)=>chkL ps (k (applyR2 dst r st1))
 |none=>none
def zNA{dst:aR}{r:Res}{st:St}{k:St->Option β}{y:β}(h:tApply dst r st k=some y):k (applyR dst r st)=some y:=by
 unfold tApply at h;split at h
 . rename_i st1 ps hp;obtain⟨hh,h1⟩:=zi9 h
   have:applyR dst r st=applyR2 dst r st1:=by rw[<-zw1 hp hh];rfl
   rw[this];exact h1
 .cases h
def tStep(P:Program)(C:Cfg)(F:AnnF)(T:Dic)(M:aF)(N:Nat)(ops:aK)(o:Oper)(st:St)(k:Res->St->Option β):Option β:=
 if dstOk N o.dst=true then
  tWant ops o st.t λw t=>match w with
   |true=>tOp P C F T M o (ev t) (look st.m) λr=>tApply o.dst r ⟨t,st.m⟩ (k r)
   |false=>k { val:=.v undef } (applyR o.dst { val:=.v undef } ⟨t,st.m⟩)
 else none
def zNC{o:Oper}{st:St}{k:Res->St->Option β}{y:β}(h:tStep P C F T M N ops o st k=some y):∃r st',aStep P C M (callw P C F) N ops o st=some (r,st')/\k r st'=some y:=by
 unfold tStep at h;split at h
 case isFalse=>cases h
 rename_i hd;obtain⟨b,hb,h1⟩:=zNE h;unfold aStep;rw[if_pos hd,hb]
 cases b with
 |true=>simp only at h1 ⊢;obtain⟨r,h2,h3⟩:=tOp_sound h1;rw[h2];exact⟨_,_,rfl,zNA h3⟩
 |false=>grind
def tRun(P:Program)(C:Cfg)(F:AnnF)(T:Dic)(M:aF)(N:Nat)(ops:aK):Nat->List Oper->St->(List Mk->St->Option β)->Option β
 |_,[],st,k=>k [] st
 |i,o::r,st,k=>tStep P C F T M N ops o st λres st'=>force st' λst'=>tRun P C F T M N ops (i+1) r st' λl st''=>k ({ i,o,res,touch:=zqF o (ev st.t) (look st.m),pre:=st }::l) st''
def zv3:∀(l:List Oper) (i:Nat) (st:St) (k:List Mk->St->Option β) (y:β),tRun P C F T M N ops i l st k=some y->∃r st',runOps P C M (callw P C F) N ops i l st=some (r,st')/\k r st'=some y
 |[],i,st,k,y,h=>⟨[],st,rfl,h⟩
 |o::l,i,st,k,y,h=>by
   simp only[tRun]at h;obtain⟨res,st1,h1,h2⟩:=zNC h;rw[ztX]at h2;obtain⟨ml,st2,h3,h4⟩:=zv3 l (i+1) st1 _ y h2;simp only[runOps]
   grind
def addU:List Nat->List Nat->List Nat
 |[],b=>b
 |x::r,b=>if b.contains x then addU r b else x::addU r b
def zFI{x:Nat}:∀{a b:aF},x∈addU a b->x∈a\/x∈b
 |[],b,h=>.inr h
 |z::r,b,h=>by
   simp only[addU]at h;split at h
   . rcases zFI h with h|h
     .grind
     .exact .inr h
   . rcases za9.1 h with rfl|h
     .exact .inl (by simp)
     . rcases zFI h with h|h
       .grind
       .exact .inr h
def befOf(tab:List (List Nat)):List Edge->List Nat
 |[]=>[]
 |e::r=>if Region.binds .any e then addU (e.on::(tab[e.on]?).getD []) (befOf tab r)else befOf tab r
def befTab:List Oper->List (List Nat)->List (List Nat)
 |[],tab=>tab
 |o::r,tab=>befTab r (tab++[befOf tab o.after.toList])
def zIe{ops:aK}:∀(k i x:Nat),x∈preds ops k i->x∈preds ops (k+1) i
 |0,i,x,h=>by simp[preds]at h
 |k+1,i,x,h=>by
   simp only[preds]at h;show x∈preds ops (k+1+1) i;unfold preds
   cases ho:ops[i]? with
   |none=>simp[ho]at h
   |some o =>
     simp only[ho]at h ⊢;obtain⟨e,he,hx⟩:=zco.1 h;refine zco.2 ⟨e,he,?_⟩;split at hx
     . rename_i hb;rw[if_pos hb];rcases za9.1 hx with rfl|hx
       .simp
       .exact za9.2 (.inr (zIe k e.on x hx))
     .cases hx
def preds_le{ops:aK}{k m i x:Nat}(h:k<=m)(hx:x∈preds ops k i):x∈preds ops m i:=by
 induction h with
 |refl=>exact hx
 |step _ ih=>exact zIe _ _ _ ih
def TabOk(ops:aK)(tab:List (List Nat)):Prop:=∀(i x:Nat) (l:aF),tab[i]?=some l->x∈l->x∈preds ops i i
def zCF{tab:List (List Nat)}{x:Nat}:∀{l:List Edge},x∈befOf tab l->∃e∈l,Region.binds .any e=true/\(x=e.on\/x∈(tab[e.on]?).getD [])
 |[],h=>by simp[befOf]at h
 |e::r,h=>by
   simp only[befOf]at h;split at h
   . rename_i hb;rcases zFI h with h|h
     .simp_all
     . obtain⟨e',h1,h2⟩:=zCF h
       grind
   . obtain⟨e',h1,h2⟩:=zCF h
     grind
def zJh{ops:aK}(hedge:∀j o,ops[j]?=some o->∀e∈o.after,Region.binds .any e=true->e.on<j):∀(l:List Oper) (tab:List (List Nat)),TabOk ops tab->(∀j,l[j]?=ops[tab.length+j]?)->TabOk ops (befTab l tab)
 |[],tab,h,_=>h
 |o::l,tab,h,hl=>by
   simp only[befTab];refine zJh hedge l _ ?_ (λj=>?_)
   . intro i x s hs hx;rw[zcD]at hs;split at hs
     .exact h i x s hs hx
     . rename_i hlt
       have hi:i=tab.length:=by
        by_cases hq:i-tab.length=0
        .omega
        .simp_all
       subst hi;simp at hs;subst hs
       have ho:ops[tab.length]?=some o:=by have:=hl 0;simp at this;exact this.symm
       obtain⟨e,he,hb,hx'⟩:=zCF hx;have hlt2:=hedge _ _ ho e (by simpa using he) hb;obtain⟨m,hm⟩:∃m,tab.length=m+1:=⟨tab.length-1,by omega⟩
       rw[hm]at ho hlt2 ⊢;unfold preds;simp only[ho];refine zco.2 ⟨e,he,?_⟩;rw[if_pos hb];rcases hx' with rfl|hx'
       .simp
       . refine za9.2 (.inr ?_)
         cases hq:tab[e.on]? with
         |none=>simp[hq]at hx'
         |some s'=>rw[hq]at hx';exact preds_le (by omega) (h e.on x s' hq hx')
   . have:=hl (j+1)
     grind
def zDR(ops:aK)(tab:List (List Nat)):List Mk->Bool
 |[]=>true
 |a::r=>r.all (λb=>((tab[b.i]?).getD []).contains a.i||indep ops a b)&&zDR ops tab r
def zHt{ops:aK}{tab:List (List Nat)}(ht:TabOk ops tab):∀{l:List Mk},zDR ops tab l=true->drawOk ops l=true
 |[],_=>rfl
 |a::r,h=>by
   simp only[zDR,drawOk,zaS,zbV,zfL]at h ⊢;refine⟨λb hb=>?_,zHt ht h.2⟩;rcases h.1 b hb with h1|h1
   . left;rw[zfn]at h1 ⊢
     cases hq:tab[b.i]? with
     |none=>simp[hq]at h1
     |some s=>rw[hq]at h1;exact ht b.i a.i s hq h1
   .exact .inr h1
def zM7{l:List Oper}:∀{i:Nat},zr5 i l=true->∀j o,l[j]?=some o->∀e∈o.after,Region.binds .any e=true->e.on<i+j:=by
 induction l with
 |nil=>simp_all
 |cons o l ih =>
   intro i h j o' ho e he hb;simp only[zU,zr5,zbV,zfL,zdo]at h
   grind
def zzK(P:Program)(C:Cfg)(F:AnnF)(T:Dic)(M:aF)(N:Nat)(ops:aK)(draw:Bool)(st:St)(k:St->Option β):Option β:=
 match draw with
 |false=>tRun P C F T M N ops 0 ops.toList (preDel ops.toList st) λ_ st'=>k st'
 |true=>tRun P C F T M N ops 0 ops.toList (preDel ops.toList st) λl st' =>
   match zr5 0 ops.toList&&P.follows .mixedOrders&&zDR ops (befTab ops.toList []) l with
   |true=>k st'
   |false=>none
def zvp{draw:Bool}{st:St}{k:St->Option β}{y:β}(h:zzK P C F T M N ops draw st k=some y):∃st',zlT P C M (callw P C F) N ops draw st=some st'/\k st'=some y:=by
 unfold zzK at h;unfold zlT
 cases draw with
 |false =>
   simp only at h;obtain⟨l,st1,h1,h2⟩:=zv3 _ _ _ _ _ h
   simp_all
 |true =>
   simp only at h;obtain⟨l,st1,h1,h2⟩:=zv3 _ _ _ _ _ h;rw[h1];split at h2
   case h_2=>cases h2
   rename_i hc;simp only[zaS]at hc;refine⟨st1,?_,h2⟩
   have hedge:∀j o,ops[j]?=some o->∀e∈o.after,Region.binds .any e=true->e.on<j:=by intro j o ho e he hb;have:=zM7 hc.1.1 j o (by simpa using ho) e he hb;omega
   have ht:TabOk ops (befTab ops.toList []):=zJh hedge ops.toList [] (λi x l hi=>by simp at hi) (λj=>by simp);simp[zHt ht hc.2,hc.1.1,hc.1.2]
end
def regK:Code->List It->Nat->Option (List It)
 |.seq a b,k,id=>match regK a (.code b::k) id with
   |some r=>some r
   |none=>regK b k id
 |.cond _ x y,k,id=>match regK x k id with
   |some r=>some r
   |none=>regK y k id
 |.block j c,k,id=>regK c (.inBlock j::k) id
 |.loop c,k,id=>regK c (.inLoop c::k) id
 |.region j ops draw,k,id=>if id=j then some (.code (.region j ops draw)::k)else none
 |_,_,_=>none
def ptS(fn:Func)(j:Nat):List It:=
 if j<1000 then ptK fn j else match fn.body with
  |some c=>(regK c [] (j-1000)).getD []
  |none=>[]
def pt(R:Fr)(j:Nat)(st:St):Option (AV×Mem):=run R (ptS R.fn j) .normal st
def tFin(R:Fr)(st:St):Option (AV×Mem):=
 match presult R.P (R.F R.f).frz R.fn st,zqh st.m R.ms with
 |some (r,ps),some ms'=>chkL ps (zzG r ms')
 |_,_=>none
def zIj{R:Fr}{st:St}{y:AV×Mem}(h:tFin R st=some y)(e:Ex)(he:e=.normal\/e=.ret):zsc R.P (R.F R.f).frz R.fn R.ms (some (e,st))=some y:=by
 unfold tFin at h;split at h
 case h_2=>cases h
 rename_i r ps ms' h1 h2;obtain⟨hh,h3⟩:=zi9 h;have:=zK8 h1 hh;rcases he with rfl|rfl<;>simp only[zsc,this,h2]<;>exact h3
def tTidy(A:Ann)(id:Nat)(st:St)(k:St->Option (AV×Mem)):Option (AV×Mem):=
 match ptidy A id st with
 |none=>none
 |some (st',ps)=>chkL ps (force st' k)
def zND{A:Ann}{id:Nat}{st:St}{k:St->Option (AV×Mem)}{y:AV×Mem}(h:tTidy A id st k=some y):k (tidy A id st)=some y:=by
 unfold tTidy at h;split at h
 .cases h
 .rename_i st' ps hp;obtain⟨hh,h1⟩:=zi9 h;rw[ztX]at h1;rw[zE6 hp hh];exact h1
def tPre{β:Type}(A:Ann)(id:Nat)(st:St)(k:St->Option β):Option β:=
 match A.fz (id+1000)with
 |[]=>k st
 |l=>match zw2 l st with
   |none=>none
   |some (st',ps)=>chkL ps (force st' k)
def zIk{β:Type}{A:Ann}{id:Nat}{st:St}{k:St->Option β}{y:β}(h:tPre A id st k=some y):k (zoN (A.fz (id+1000)) st)=some y:=by
 unfold tPre at h;split at h
 .rename_i h1;rw[h1];exact h
 . split at h
   .cases h
   .rename_i hp;obtain⟨hh,h2⟩:=zi9 h;rw[ztX]at h2;rw[zt4 hp hh];exact h2
def setO(o:Operand)(x:Bool)(st:St):St:=
 match o with
 |.tmp d=>{ st with t:=setB d x st.t }
 |_=>st
def tGo(R:Fr)(T:Dic)(cut:aF):Nat->Bool->List It->St->Option (AV×Mem)
 |0,_,_,_=>none
 |_+1,_,[],st=>tFin R st
 |n+1,first,.inBlock _::k,st=>tGo R T cut n first k st
 |n+1,first,.inLoop c::k,st=>match first with
   |true=>tGo R T cut n false (.code c::.inLoop c::k) st
   |false=>run R (.inLoop c::k) .normal st
 |n+1,first,.code c::k,st=>match c with
   |.skip=>tGo R T cut n first k st
   |.seq a b=>tGo R T cut n first (.code a::.code b::k) st
   |.block id c=>tGo R T cut n first (.code c::.inBlock id::k) st
   |.loop c=>tGo R T cut n first (.inLoop c::k) st
   |.exit id=>match dropTo id k with
     |some k'=>tGo R T cut n first k' st
     |none=>none
   |.ret=>tFin R st
   |.cond o x y=>match ev st.t o with
     |.v (.bool b)=>brn b (tGo R T cut n false (.code x::k) (setO o true st)) (tGo R T cut n false (.code y::k) (setO o false st))
     |_=>none
   |.region id ops draw=>match !first&&cut.contains id with
     |true=>run R (.code (.region id ops draw)::k) .normal st
     |false=>tPre (R.F R.f) id st λst0=>zzK R.P R.C R.F T (R.F R.f).lits R.fn.ntmps ops draw st0 λst1=>tTidy (R.F R.f) id st1 λst2=>tGo R T cut n false k st2
   |_=>none
def zJU{o:Operand}{x:Bool}{st:St}(h:ev st.t o=.v (.bool x)):setO o x st=st:=by
 unfold setO;split
 .rename_i d;rw[zxS h]
 .rfl
def zJ2{R:Fr}{T:Dic}{cut:aF}:∀(n:Nat) (first:Bool) (k:List It) (st:St) (y:AV×Mem),tGo R T cut n first k st=some y->run R k .normal st=some y:=by
 intro n
 induction n with
 |zero=>intro first k st y h;simp[tGo]at h
 |succ n ih =>
   intro first k st y h
   cases k with
   |nil=>simp only[tGo]at h;exact zIj h .normal (.inl rfl)
   |cons it k =>
     cases it with
     |inBlock id =>
       simp only[tGo]at h;simp only[run]
       grind
     |inLoop c =>
       simp only[tGo]at h;split at h
       . have:=ih false _ st y h;rw[<-this];simp only[run];rw[itw_eq]
         cases hq:R.ev c st with
         |none=>rfl
         |some q =>
           obtain⟨e,st1⟩:=q
           cases e with
           |normal=>simp only[run]
           |exit id=>simp only[run]
           |ret=>simp only[run]
       .exact h
     |code c =>
       simp only[tGo]at h
       cases c with
       |skip=>simp only at h;rw[<-ih first k st y h];rfl
       |seq a b =>
         simp only at h;rw[<-ih first _ st y h];simp only[run,Fr.ev,aeval]
         cases hq:aeval R.P R.C (R.F R.f) R.fn.ntmps (callw R.P R.C R.F) itw a st with
         |none=>rfl
         |some q =>
           obtain⟨e,st1⟩:=q
           cases e with
           |normal=>simp only[run,Fr.ev]
           |exit id=>simp only[run]
           |ret=>simp only[run]
       |block id c =>
         simp only at h;rw[<-ih first _ st y h];simp only[run,Fr.ev,aeval]
         cases hq:aeval R.P R.C (R.F R.f) R.fn.ntmps (callw R.P R.C R.F) itw c st with
         |none=>rfl
         |some q =>
           obtain⟨e,st1⟩:=q
           cases e with
           |normal=>simp only[run]
           |exit j =>
             simp only[run]
             grind
           |ret=>simp only[zzI]
       |loop c=>simp only at h;rw[<-ih first _ st y h];rfl
       |exit id =>
         simp only at h;split at h
         .rename_i k' hk;rw[<-ih first k' st y h];simp only[run,Fr.ev,aeval];exact zA3 R id k k' st hk
         .cases h
       |ret=>simp only at h;simp only[run,Fr.ev,aeval];rw[zzI];exact zIj h .ret (.inr rfl)
       |cond o x z =>
         simp only at h;split at h
         . rename_i b hb;rcases zww h with⟨rfl,h⟩|⟨rfl,h⟩
           .rw[zJU hb]at h;rw[<-ih false _ st y h];simp only[run,Fr.ev,aeval,hb,if_true]
           .rw[zJU hb]at h;rw[<-ih false _ st y h];simp only[zQ,run,Fr.ev,aeval,hb]
         .cases h
       |region id ops draw =>
         simp only at h;split at h
         .exact h
         .obtain⟨st1,h1,h2⟩:=zvp (zIk h);have h3:=zND h2;rw[<-ih false k _ y h3];simp only[run,Fr.ev,aeval];rw[h1]
       |_=>cases h
def pt_of{R:Fr}(T:Dic)(cut:aF){j:Nat}{st:St}{y:AV×Mem}{x:Option (AV×Mem)}(hx:tGo R T cut 100000 (decide (j≠0)) (ptS R.fn j) st=x)(h:x=some y):pt R j st=some y:=
 zJ2 _ _ _ _ _ (hx.trans h)
def regOf(j:Nat):Code->Option Code
 |.region id ops draw=>if id=j then some (.region id ops draw)else none
 |.seq a b=>match regOf j a with
   |some c=>some c
   |none=>regOf j b
 |.cond _ a b=>match regOf j a with
   |some c=>some c
   |none=>regOf j b
 |.block _ c=>regOf j c
 |.loop c=>regOf j c
 |_=>none
def tTidyS(A:Ann)(id:Nat)(st:St):Option St:=
 match ptidy A id st with
 |none=>none
 |some (st',ps)=>chkL ps (force st' some)
def tReg(R:Fr)(T:Dic)(j:Nat)(st:St):Option St:=
 match R.fn.body with
 |some c=>match regOf j c with
   |some (.region id ops draw)=>tPre (R.F R.f) id st λst0=>zzK R.P R.C R.F T (R.F R.f).lits R.fn.ntmps ops draw st0 λst1=>tTidyS (R.F R.f) id st1
   |_=>none
 |none=>none
def tReg_sound{R:Fr}{T:Dic}{j id:Nat}{ops:aK}{draw:Bool}{c:Code}{st st':St}(hb:R.fn.body=some c)(hc:regOf j c=some (.region id ops draw))(h:tReg R T j st=some st')(it:Go.Ab.Loop):aeval R.P R.C (R.F R.f) R.fn.ntmps (callw R.P R.C R.F) it (.region id ops draw) st=some (.normal,st'):=by
 unfold tReg at h;simp only[hb,hc]at h;obtain⟨st1,h1,h2⟩:=zvp (zIk h);unfold tTidyS at h2;split at h2
 .cases h2
 rename_i st2 ps hp;obtain⟨hh,h3⟩:=zi9 h2;rw[ztX]at h3;injection h3 with h3;subst h3;simp only[aeval,h1];rw[zE6 hp hh]
def tReg0(R:Fr)(T:Dic)(j:Nat)(st:St):Option St:=
 match R.fn.body with
 |some c=>match regOf j c with
   |some (.region _ ops draw)=>zzK R.P R.C R.F T (R.F R.f).lits R.fn.ntmps ops draw st λst1=>force st1 some
   |_=>none
 |none=>none
def zNB{R:Fr}{T:Dic}{j id:Nat}{ops:aK}{draw:Bool}{c:Code}{st st':St}(hb:R.fn.body=some c)(hc:regOf j c=some (.region id ops draw))(h:tReg0 R T j st=some st'):zlT R.P R.C (R.F R.f).lits (callw R.P R.C R.F) R.fn.ntmps ops draw st=some st':=by
 unfold tReg0 at h;simp only[hb,hc]at h;obtain⟨st1,h1,h2⟩:=zvp h;rw[ztX]at h2
 simp_all
def blank:Mem->Mem
 |[]=>[]
 |(k,_)::r=>(k,⟨0,0,[],false⟩)::blank r
def zJi:∀ms:Mem,(blank ms).map (·.1)=ms.map (·.1)
 |[]=>rfl
 |(k,e)::r=>by simp only[blank,zbX,zJi r]
def zzg(is:aF)(m:Mem):∀ms:Mem,zlk is m (blank ms)=zlk is m ms
 |[]=>rfl
 |(k,e)::r=>by simp only[blank,zlk,zzg is m r]
def zKv(m:Mem)(ms:Mem):zqh m (blank ms)=zqh m ms:=by unfold zqh;rw[zJi,zzg]
def callw_run{P:Program}{C:Cfg}{F:AnnF}{f:FuncId}{fn:Func}{c:Code}{args:aH}{ms:Mem}{r:AV×Mem}(ho:C.orc f args ms=none)(hf:P.funcs[f]?=some fn)(hb:fn.body=some c)(he:enters P f=true)
  (hN:decide (fn.ntmps<=1000/\args.length<=fn.ntmps)=true) (h:run ⟨P,C,F,f,fn,blank ms⟩ [.code c] .normal { t:=argTab 0 args,m:=ms }=some r):callw P C F f args ms=some r:=by
 have hn:=of_decide_eq_true hN;refine callw_of ho hf hb he hn.1 hn.2 ?_;simp only[run,Fr.ev]at h;split at h
 .rename_i e st hq;rw[hq];unfold zsc at h ⊢;simp only[zKv]at h;exact h
 .cases h
def callw_tree(R:Fr)(T:Dic)(cut:aF){args:aH}{ms:Mem}{r:AV×Mem}{x:Option (AV×Mem)}(ho:R.C.orc R.f args ms=none)(hf:R.P.funcs[R.f]?=some R.fn)(he:enters R.P R.f=true)
  (hN:decide (R.fn.ntmps<=1000/\args.length<=R.fn.ntmps)=true) (hm:R.ms=blank ms)
  (hx:tGo R T cut 100000 false (ptK R.fn 0) { t:=argTab 0 args,m:=ms }=x) (h:x=some r):callw R.P R.C R.F R.f args ms=some r:=by
 have h':=zJ2 _ _ _ _ _ (hx.trans h);unfold enters at he;rw[hf]at he;simp only[zaS]at he;obtain⟨c,hc⟩:=zaN.1 he.1;have he':enters R.P R.f=true:=by unfold enters;rw[hf];simp only[zaS];exact he
 refine callw_run ho hf hc he' hN ?_;unfold ptK at h';simp only[hc]at h';rw[<-hm];exact h'
end
section
open Classical
abbrev TyD.of(α:Type)(enc:α->List AV)(inj:∀x y,enc x=enc y->x=y):TyD where
 α:=α
 enc:=enc
 dec:=λc=>if h:∃x,c=enc x then some (Classical.choose h)else none
 ok:=λc x h=>by
  split at h
  .grind
  .cases h
 de:=λx=>by
  have h:∃y,enc x=enc y:=⟨x,rfl⟩
  grind
abbrev RD.of(α:Type)(enc:α->AV×Mem)(inj:∀x y,enc x=enc y->x=y):RD where
 α:=α
 enc:=enc
 dec:=λc=>if h:∃x,c=enc x then some (Classical.choose h)else none
 ok:=λc x h=>by
  split at h
  .grind
  .cases h
 de:=λx=>by
  have h:∃y,enc x=enc y:=⟨x,rfl⟩
  grind
end
def TyD.inj(D:TyD){x y:D.α}(h:D.enc x=D.enc y):x=y:=by
 have h1:=D.de x;rw[h,D.de y]at h1
 simp_all
def TyD.minj(D:TyD){l l':List D.α}:(List.map D.enc l=List.map D.enc l')=(l=l'):=by
 refine propext ⟨λh=>?_,λh=>by rw[h]⟩
 induction l generalizing l' with
 |nil=>simp_all
 |cons a r ih=>cases l' with
   |nil=>simp at h
   |cons b s=>simp only[zbX,zaD]at h;rw[D.inj h.1,ih h.2]
abbrev dRaw:TyD:={ α:=List AV,enc:=id,dec:=some,ok:=λc x h=>by injection h,de:=λ_=>rfl }
def zah:Int->List AV:=λx=>[I x]
abbrev zbm:TyD:=TyD.of Int zah (by intro x y h;simpa[zah]using h)
def nI_i32:Int->List AV:=λx=>[.v (.int .i32 x)]
abbrev dI_i32:TyD:=TyD.of Int nI_i32 (by intro x y h;simpa[nI_i32]using h)
def nI_u64:Int->List AV:=λx=>[.v (.int .u64 x)]
abbrev dI_u64:TyD:=TyD.of Int nI_u64 (by intro x y h;simpa[nI_u64]using h)
def nI_u32:Int->List AV:=λx=>[.v (.int .u32 x)]
abbrev dI_u32:TyD:=TyD.of Int nI_u32 (by intro x y h;simpa[nI_u32]using h)
def nI_u8:Int->List AV:=λx=>[.v (.int .u8 x)]
abbrev dI_u8:TyD:=TyD.of Int nI_u8 (by intro x y h;simpa[nI_u8]using h)
def nBool:Bool->List AV:=λx=>[B x]
abbrev dBool:TyD:=TyD.of Bool nBool (by intro x y h;simpa[nBool]using h)
def nStr:ByteArray->List AV:=λx=>[.v (.string x)]
abbrev dStr:TyD:=TyD.of ByteArray nStr (by intro x y h;simpa[nStr]using h)
abbrev rRaw:RD:={ α:=AV×Mem,enc:=id,dec:=some,ok:=λc x h=>by injection h,de:=λ_=>rfl }
def ze9{β:Type}(D:TyD)(l:List D.α)(i:Nat)(k:D.α->Option β):elemD D (List.map D.enc l) i k=(l[i]?).bind k:=by unfold elemD;rw[zbx];cases l[i]?<;>simp[D.de]
@[simp] def zb6{β:Type}(l:aC)(i:Nat)(k:Int->Option β):elemD zbm (List.map zah l) i k=(l[i]?).bind k:=ze9 zbm l i k
@[simp] def zqk{β:Type}(l:aP)(i:Nat)(k:Bool->Option β):elemD dBool (List.map nBool l) i k=(l[i]?).bind k:=ze9 dBool l i k
theorem zaB{β:Type}{p:Prop}[Decidable p](h:p)(t e:Option β):brn (decide p) t e=t:=by rw[zfy,if_pos h]
theorem zaH{β:Type}{p:Prop}[Decidable p](h:¬p)(t e:Option β):brn (decide p) t e=e:=by rw[zfy,if_neg h]
abbrev w64(n:Int):Int:=IntKind.wrap .i64 n
abbrev wu64(n:Int):Int:=IntKind.wrap .u64 n
theorem w64_id{n:Int}(h1:-9223372036854775808<=n)(h2:n<9223372036854775808):w64 n=n:=by simp only[w64,IntKind.wrap,IntKind.bits,IntKind.signed,show((2:Int) ^ 64)=18446744073709551616 from rfl,show((2:Int) ^ (64-1))=9223372036854775808 from rfl,zcy,decide_eq_true_eq];split<;>omega
def zz0{n:Int}(h1:0<=n)(h2:n<18446744073709551616):wu64 n=n:=by
 simp only[wu64,IntKind.wrap,IntKind.bits,IntKind.signed,show((2:Int) ^ 64)=18446744073709551616 from rfl,zcU]
 grind
def zxQ{α:Type}(l:List α)(M:Nat->List α->Prop)(h0:M l.length [])(hs:∀(i:Nat) (x:α) (r:List α) (hi:i<l.length),l[i]=x->l.drop (i+1)=r->M (i+1) r->M i (x::r)):M 0 l:=by
 have key:∀(k i:Nat),i+k=l.length->M i (l.drop i):=by
  intro k
  induction k with
  |zero=>simp_all
  |succ k ih =>
    intro i hi;have hlt:i<l.length:=by omega
    rw[zbe hlt]
    grind
 have:=key l.length 0 (by omega);simpa using this
def mfind{κ ν:Type}[DecidableEq κ](k:κ):List (κ×ν)->Option ν
 |[]=>none
 |p::r=>if p.1=k then some p.2 else mfind k r
def mput{κ ν:Type}[DecidableEq κ](k:κ)(v:ν):List (κ×ν)->List (κ×ν)
 |[]=>[(k,v)]
 |p::r=>if p.1=k then(k,v)::r else p::mput k v r
section
variable{P:Program}{kt:TypeId}{κ ν:Type}[DecidableEq κ]{kenc:κ->AV}{venc:ν->AV}
def zJI(hK:∀x y,keyEq P kt (kenc x) (kenc y)=some (decide (y=x)))(key:κ):∀l:List (κ×ν),mlook P kt (kenc key) (l.map λp=>[kenc p.1,venc p.2])=some ((mfind key l).map venc)
 |[]=>rfl
 |p::r=>by
   simp only[zbX,mlook,hK,mfind];by_cases h:p.1=key
   .simp_all
   .rw[decide_eq_false h,if_neg h];exact zJI hK key r
def mset_gen(hK:∀x y,keyEq P kt (kenc x) (kenc y)=some (decide (y=x)))(key:κ)(v:ν):∀l:List (κ×ν),mset P kt (kenc key) (venc v) (l.map λp=>[kenc p.1,venc p.2])=some ((mput key v l).map λp=>[kenc p.1,venc p.2])
 |[]=>rfl
 |p::r=>by
   simp only[zbX,mset,hK,mput];by_cases h:p.1=key
   .simp_all
   .rw[decide_eq_false h,if_neg h];simp only[mset_gen hK key v r,zbX]
def zmW{β:Type}{agg:Bool}{D:TyD}{venc:D.α->AV}(hK:∀x y,keyEq P kt (kenc x) (kenc y)=some (decide (y=x)))(hV:∀x,avDec agg D (venc x)=some x)(z:D.α)(key:κ)(l:List (κ×D.α))(k:D.α->Bool->Option β):mapD P kt agg D (venc z) (l.map λp=>[kenc p.1,venc p.2]) (kenc key) k=k ((mfind key l).getD z) (mfind key l).isSome:=by
 unfold mapD;rw[zJI hK key l]
 cases hm:mfind key l with
 |none=>simp_all
 |some x=>simp_all
def zka{β:Type}{et:TypeId}(hK:∀x y,keyEq P kt (kenc x) (kenc y)=some (decide (y=x)))(key:κ)(v:ν)(l:List (κ×ν))(k:List (List AV)->Option β):msetD P kt et (kenc key) (venc v) (l.map λp=>[kenc p.1,venc p.2]) k=k ((mput key v l).map λp=>[kenc p.1,venc p.2]):=by unfold msetD;rw[mset_gen hK key v l]
end
structure VD where
 α:Type
 enc:α->AV
 inj:∀x y,enc x=enc y->x=y
structure LD where
 α:Type
 enc:α->List AV
 inj:∀x y,enc x=enc y->x=y
structure MD where
 α:Type
 enc:α->Mem
 inj:∀x y,enc x=enc y->x=y
abbrev vPtr:VD:=⟨Option Addr,λp=>.v (.pointer p),λx y h=>by simpa using h⟩
abbrev vI(k:IntKind):VD:=⟨Int,λx=>.v (.int k x),λx y h=>by simpa using h⟩
abbrev vBool:VD:=⟨Bool,λx=>.v (.bool x),λx y h=>by simpa using h⟩
abbrev vAgg(D:TyD):VD:=⟨D.α,λx=>.agg (D.enc x),λx y h=>D.inj (by simpa using h)⟩
abbrev vSl(z:Nat)(D:TyD):VD:=⟨List D.α,λx=>.sl z (List.map D.enc x),λx y h=>by simpa only[AV.sl.injEq,true_and,TyD.minj]using h⟩
abbrev vNew(z:Nat)(e:TypeId)(D:TyD):VD:=⟨List D.α,λx=>.new z e (List.map D.enc x),λx y h=>by simpa only[AV.new.injEq,true_and,TyD.minj]using h⟩
abbrev vNewp(z:Nat)(e:TypeId)(D:TyD):VD:=⟨D.α,λx=>.newp z e (D.enc x),λx y h=>D.inj (by simpa using h)⟩
abbrev vMp(D:TyD):VD:=⟨List D.α,λx=>.mp (List.map D.enc x),λx y h=>by simpa only[AV.mp.injEq,TyD.minj]using h⟩
abbrev vNewm(e:TypeId)(D:TyD):VD:=⟨List D.α,λx=>.newm e (List.map D.enc x),λx y h=>by simpa only[AV.newm.injEq,true_and,TyD.minj]using h⟩
abbrev lOne(V:VD):LD:=⟨V.α,λx=>[V.enc x],λx y h=>V.inj x y (by simpa using h)⟩
abbrev lCons(V:VD)(L:LD):LD:=⟨V.α×L.α,λx=>V.enc x.1::L.enc x.2,λx y h=>by
 simp only[zaD]at h
 exact zdy (V.inj _ _ h.1) (L.inj _ _ h.2)⟩
abbrev mBox(k z:Nat)(e:TypeId)(D:TyD):MD:=⟨D.α,λx=>[(k,⟨z,e,[D.enc x],true⟩)],λx y h=>D.inj (by simpa using h)⟩
abbrev mRow(k z:Nat)(e:TypeId)(D:TyD):MD:=⟨List D.α,λx=>[(k,⟨z,e,List.map D.enc x,false⟩)],λx y h=>by simpa only[zN,zaC,Ent.mk.injEq,TyD.minj]using h⟩
abbrev r0:RD:=RD.of Unit (λ_=>(.tup [],[])) (λx y _=>by cases x;cases y;rfl)
abbrev r1(V:VD):RD:=RD.of V.α (λx=>(V.enc x,[])) (λx y h=>V.inj x y (by simpa using h))
abbrev rT(L:LD):RD:=RD.of L.α (λx=>(.tup (L.enc x),[])) (λx y h=>L.inj x y (by simpa using h))
abbrev r0M(M:MD):RD:=RD.of M.α (λx=>(.tup [],M.enc x)) (λx y h=>M.inj x y (by simpa using h))
abbrev r1M(V:VD)(M:MD):RD:=RD.of (V.α×M.α) (λx=>(V.enc x.1,M.enc x.2)) (λx y h=>by
 simp only[zaC]at h
 exact zdy (V.inj _ _ h.1) (M.inj _ _ h.2))
abbrev rTM(L:LD)(M:MD):RD:=RD.of (L.α×M.α) (λx=>(.tup (L.enc x.1),M.enc x.2)) (λx y h=>by
 simp only[zaC,AV.tup.injEq]at h
 exact zdy (L.inj _ _ h.1) (M.inj _ _ h.2))
def altD:List (Nat×RD)->Nat->RD
 |[],_=>rRaw
 |(j,d)::r,k=>if k=j then d else altD r k
def Dic.of(ty:List TyD)(res:List RD)(alt:List (Nat×RD):=[]):Dic:={ ty:=λt=>ty.getD t dRaw,res:=λf=>if f<100000 then res.getD f rRaw else altD alt (f-100000) }
section
open Go.RowKit Go.Sort Go.Proofs Go.Shelf
variable[Dr]
section
variable{T:Type}[Inhabited T]{lt:T->T->Bool}
def atS(l:List T)(i:Nat):T:=l[min i (l.length-1)]?.getD default
def sortS(lt:T->T->Bool)(l:List T):List T:=(pdq (λi j=>lt (atS l i) (atS l j)) (Array.range l.length) 0 l.length (Lib.bitLen l.length) true true).toList.map (atS l)
def atS_get{l:List T}{i:Nat}(h:i<l.length):atS l i=l[i]:=by
 unfold atS
 grind
def swoAt(hO:SWO lt)(l:List T):SWO λi j=>lt (atS l i) (atS l j):=
 ⟨λ_=>hO.irrefl _,λ_ _ _=>hO.trans _ _ _,λ_ _ _=>hO.ntrans _ _ _⟩
def pdqAt(hO:SWO lt)(l:List T):PermIn 0 l.length (Array.range l.length) (pdq (λi j=>lt (atS l i) (atS l j)) (Array.range l.length) 0 l.length (Lib.bitLen l.length) true true)/\SortedIn (λi j=>lt (atS l i) (atS l j)) 0 l.length (pdq (λi j=>lt (atS l i) (atS l j)) (Array.range l.length) 0 l.length (Lib.bitLen l.length) true true):=
 pdq_sorts _ (swoAt hO l) (Array.range l.length) 0 l.length (Lib.bitLen l.length) true true (zc4 _) (by simp) (Or.inl rfl)
def range_at(l:List T):(List.range l.length).map (atS l)=l:=by
 apply zdb
 .simp
 .intro i h1 h2;rw[zg6,List.getElem_range,atS_get h2]
def zv2(hO:SWO lt)(l:List T):(sortS lt l).Perm l:=by
 obtain⟨⟨h1,_,h3⟩,_⟩:=pdqAt hO l;unfold sortS;generalize pdq (λi j=>lt (atS l i) (atS l j)) (Array.range l.length) 0 l.length (Lib.bitLen l.length) true true=d at h1 h3
 have e:d.extract 0 l.length=d:=by
  have:l.length=d.size:=by rw[h1];simp
  rw[this];simp
 rw[e]at h3;have h4:=h3.map (atS l);have e2:((Array.range l.length).extract 0 l.length).toList=List.range l.length:=by simp
 rw[e2,range_at]at h4;exact h4
def zw4(hO:SWO lt)(l:List T):(sortS lt l).Pairwise λx y=>lt y x=false:=by
 obtain⟨⟨h1,_,_⟩,h4⟩:=pdqAt hO l;unfold sortS;generalize pdq (λi j=>lt (atS l i) (atS l j)) (Array.range l.length) 0 l.length (Lib.bitLen l.length) true true=d at h1 h4;have hd:d.size=l.length:=by rw[h1];simp
 rw[zdW,zcn];intro i j hi hj hij;have hi':i<d.size:=by simpa using hi
 have hj':j<d.size:=by simpa using hj
 have:=h4 i j (by omega) hij (by omega)
 simp_all
def zMt(hO:SWO lt)(l:List T):(sortS lt l).length=l.length:=(zv2 hO l).length_eq
def zAE{P:Program}{f:FuncId}(h:enters P f=true)(args:aM)(w:World):(callFunc f args).run P w=.ok (.enter f args) w:=by
 unfold enters at h;split at h
 .rename_i fn hf;simp only[zaS,zdo]at h;obtain⟨c,hc⟩:=zaN.1 h.1;exact enters_of hf h.2 hc args w
 .cases h
variable{P:Program}{ρ:Ren}{C:Cfg}{A:AnnF}{k:Nat}{ty:TypeId}{fc:FuncId}{nT:T->List AV}
def lentR(k:Nat)(ty:TypeId)(es:aI):Mem:=[(1000,⟨k,ty,es,false⟩)]
def zH2{es:aI}{b:Nat}{ent:Ent}(h:look (lentR k ty es) b=some ent):b=1000/\ent=⟨k,ty,es,false⟩:=by
 unfold lentR at h;simp only[look]at h
 simp_all
def zzx{es:aI}{b:Nat}:Dm (lentR k ty es) b↔b=1000:=by
 unfold Dm;constructor
 .intro h;obtain⟨e,he⟩:=zaN.1 h;exact(zH2 he).1
 . rintro rfl
   simp[lentR,look]
def sort_calls(L:SlLaysF0.n6 P ρ)(aE:∀w,(isAgg (ρ.t 24)).run P w=.ok true w)(zE:∀w,(Go.sizeOf (ρ.t 24)).run P w=.ok k w)(hk0:0<k)(hn:∀x,(nT x).length=k)
  (eg:∀args w,(callFunc fc args).run P w=.ok (.enter fc args) w) (hO:SWO lt)
  (hcmp:∀x y,∃v:Int,@callw drOn P C A fc [.agg (nT x),.agg (nT y)] []=some (.v (.int .i64 v),[])/\decide (v<0)=lt x y)
  (l:List T) (hl:l.length<1000000) (w:World) (S:aB) (κ:Kap) (vals:aM) (hvl:vals.size=2) (hS:∀g,S g->g<w.heap.size)
  (hv:∀(i:Nat) (a:AV) (x:Value),[AV.row 1000 k 0 l.length,.fn fc []][i]?=some a->vals[i]?=some x->VRel S κ (Dm (lentR k ty (l.map nT))) w a x)
  (hms:∀b ent,look (lentR k ty (l.map nT)) b=some ent->EntAt S κ (Dm (lentR k ty (l.map nT))) w (κ b) ent):Calls P (ρ.f 6) vals w (Left S κ (lentR k ty (l.map nT)) (lentR k ty ((sortS lt l).map nT)) (.tup []) w):=by
 obtain⟨v0,v1,rfl⟩:∃v0 v1,vals=#[v0,v1]:=by
  rcases vals with⟨vs⟩
  match vs,hvl with
  |[a,b],_=>exact⟨a,b,rfl⟩
 have h0:=hv 0 _ v0 rfl rfl;have h1:=hv 1 _ v1 rfl rfl
 obtain rfl:v1=.func (.func fc) #[] #[]:=by
  cases h1 with
  |c h =>
    cases h with
    |fn _ _ vs hlen _=>simp_all
  |fn _ _ vs hlen _=>simp_all
 have hent:=hms 1000 _ (show look (lentR k ty (l.map nT)) 1000=some ⟨k,ty,l.map nT,false⟩by simp[lentR,look]);have hcell:=hent.1 (.inr hk0)
 have left:∀w':World,w'.os=w.os->w'.tape=w.tape->OutD w w'->w.heap.size<=w'.heap.size->(∀g,g<w.heap.size->(∀c,κ 1000≠some (g,c))->w'.heap[g]?=w.heap[g]?)->CellAt S κ (Dm (lentR k ty ((sortS lt l).map nT))) w' (κ 1000) ⟨k,ty,(sortS lt l).map nT,false⟩->Left S κ (lentR k ty (l.map nT)) (lentR k ty ((sortS lt l).map nT)) (.tup []) w (.returned (.tuple #[])) w':=by
  intro w' p1 p2 p3 p4 p5 p6;refine⟨.tuple #[],S,κ,rfl,p1,p2,p3,p4,λg hg h=>p5 g hg (λc=>h 1000 c (zzx.2 rfl)),λ_ h=>h,λ_ h=>.inl h,λg h=>zcz (hS g h) p4,λ_ _=>rfl,λb g c hb hd _=>?_,λb b' g c c' hb hb' _ _=>?_,λb ent hb=>?_,?_⟩
  .have:=zzx.1 hd;omega
  .rw[zzx.1 hb,zzx.1 hb']
  .obtain⟨rfl,rfl⟩:=zH2 hb;exact⟨zzx.2 rfl,.of (.inr hk0) p6⟩
  .exact .tup [] #[] rfl (λj c x h=>by simp at h)
 have hlen:=zMt hO l;generalize hnl:l.length=n at h0
 cases h0 with
 |row0 _ _ hd hk =>
   refine(AnyF.slices_SortFunc_none L none 0 _ w).mono ?_
   rintro e w' ⟨rfl,rfl⟩
   refine left w' rfl rfl .of (zaW _) (λ_ _ _=>rfl) ?_
   simp_all
 |row _ _ _ _ g c off' cap hd hk hncap ho hc =>
   subst hnl;obtain rfl:off'=0:=by simpa using ho
   have hcc:=hc rfl;rw[hk]at hcell;obtain⟨_,cells,g1,g2,g3,g4,g5,g6⟩:=hcell;simp only at g1 g2 g3 g4 g6;rw[zac]at g3;by_cases hl0:l.length=0
   . rw[hl0];refine(AnyF.slices_SortFunc_none L (some ⟨g,0,none⟩) cap _ w).mono ?_
     rintro e w' ⟨rfl,rfl⟩
     refine left w' rfl rfl .of (zaW _) (λ_ _ _=>rfl) ?_;have hs0:sortS lt l=[]:=zcV (by omega);rw[hs0,hk];exact⟨by simp,cells,g1,g2,by simp,g4,g5,by simp⟩
   have cl:∀i,min i (l.length-1)<l.length:=λi=>by omega
   let enc:Nat->List Value:=λi=>(List.range k).map λj=>cells[min i (l.length-1)*k+j]!
   have hek:∀i,(enc i).length=k:=λi=>by simp[enc]
   have hin:∀i j,j<k->min i (l.length-1)*k+j<cells.size:=λi j hj=>by
    have h1:(min i (l.length-1)+1)*k<=c*k:=zbL _ (by have:=cl i;omega)
    grind
   have hcl:∀i j,j<k->∃a,(nT (atS l i))[j]?=some a/\(cells[min i (l.length-1)*k+j]!).oneCell'=true/\CRel S w a cells[min i (l.length-1)*k+j]!:=λi j hj=>by
    have hx:j<(nT (atS l i)).length:=by rw[hn];exact hj
    obtain⟨u,q1,q2,_,q4⟩:=g6 (min i (l.length-1)) j (nT (atS l i)) ((nT (atS l i))[j]) (by
     unfold atS
     simp_all) (zaa hx)
    simp_all
   have heo:∀i,∀v∈enc i,v.oneCell'=true:=λi v hv=>by
    obtain⟨j,hj,rfl⟩:=zbA.1 hv
    simp_all
   let cf:Nat->Nat->Int:=λi j=>(hcmp (atS l i) (atS l j)).choose
   have hcf:∀i j,@callw drOn P C A fc [.agg (nT (atS l i)),.agg (nT (atS l j))] []=some (.v (.int .i64 (cf i j)),[])/\decide (cf i j<0)=lt (atS l i) (atS l j):=λi j=>(hcmp (atS l i) (atS l j)).choose_spec
   have hlt:ltOf cf=λi j=>lt (atS l i) (atS l j):=funext λi=>funext λj=>(hcf i j).2
   have hOc:SWO (ltOf cf):=by rw[hlt];exact swoAt hO l
   have hgw:g<w.heap.size:=by
    rcases zji g w.heap.size with h|h
    .exact h
    .simp_all
   have oth:∀(m:Nat) (dk:Array Nat) (os:Array Obj) (q:Nat),q<w.heap.size->q≠g->(sortWorldK enc k w g 0 m dk os).heap[q]?=w.heap[q]?:=λm dk os q hq hqg=>by
    show((w.heap.modify g _)++os)[q]?=_
    grind
   have hSg:∀q,S q->q≠g:=λq hq e=>g5 (e▸hq)
   have sw:∀(m:Nat) (dk:Array Nat) (os:Array Obj) (q:Nat),S q->(sortWorldK enc k w g 0 m dk os).heap[q]?=w.heap[q]?:=λm dk os q hq=>oth m dk os q (hS q hq) (hSg q hq)
   have szw:∀(m:Nat) (dk:Array Nat) (os:Array Obj),w.heap.size<=(sortWorldK enc k w g 0 m dk os).heap.size:=λm dk os=>by show _<=((w.heap.modify g _)++os).size;simp
   have agg:∀(m:Nat) (dk:Array Nat) (os:Array Obj) (i:Nat),CRel S (sortWorldK enc k w g 0 m dk os) (.agg (nT (atS l i))) (.agg (enc i).toArray):=λm dk os i=>by
    refine .agg _ _ (by simp[hek,hn]) (λx hx=>heo i x (by simpa using hx)) (λj a x ha hx=>?_);have hj:j<k:=by have:=(zao.1 ha).1;rw[hn]at this;exact this
    obtain⟨a',e1,_,e3⟩:=hcl i j hj;rw[ha]at e1;injection e1 with e1
    have:x=cells[min i (l.length-1)*k+j]!:=by simp only[enc,List.getElem?_toArray,zbx,List.getElem?_range hj,zbk]at hx;injection hx with hx;exact hx.symm
    rw[this,e1];exact e3.mono (λ_ h=>h) (sw m dk os)
   have hcmpL:CmpLays P fc #[] enc k cf g 0 (Array.range l.length).size w:=by
    intro m os dk hdk x y
    have ok:=(@zwE drOn P C A fc _ _ _ _ (hcf x y).1).2 (sortWorldK enc k w g 0 m dk os) S noK #[.agg (enc x).toArray,.agg (enc y).toArray] rfl (λq hq=>zcz (hS q hq) (szw m dk os))
     (λi a v ha hv=>by
      match i,ha,hv with
      |0,ha,hv=>simp at ha hv;subst ha hv;exact .c (agg m dk os x)
      |1,ha,hv=>simp at ha hv;subst ha hv;exact .c (agg m dk os y)
      |i+2,ha,_=>simp at ha) (λb ent hb=>by simp[look]at hb) (λb b' g c c' hb=>by simp[Dm,look]at hb)
    refine Calls.mono ok ?_
    rintro e w' ⟨v,S',κ',rfl,q1,q2,q3,q4,q5,_,_,_,_,_,_,_,q6⟩
    have hv:v=.int .i64 (cf x y):=by
     have q6:CRel S' w' (.v (.int .i64 (cf x y))) v:=q6
     cases q6 with
     |v _=>rfl
    refine⟨by rw[hv],w'.drawn-(sortWorldK enc k w g 0 m dk os).drawn,(w'.heap.toList.drop (sortWorldK enc k w g 0 m dk os).heap.size).toArray,?_⟩;generalize sortWorldK enc k w g 0 m dk os=W at q1 q2 q3 q4 q5
    have hh:w'.heap=W.heap++(w'.heap.toList.drop W.heap.size).toArray:=by
     apply Array.ext_getElem?;intro q;rw[zgE];split
     .rename_i hq;exact q5 q hq (λb c hb=>by simp[Dm,look]at hb)
     .rename_i hq;simp only[List.getElem?_toArray,zb9,zey];congr 1;omega
    have hd:w'.drawn=W.drawn+(w'.drawn-W.drawn):=by have:=q3.2 trivial;omega
    have ho:=q3.1;rcases w' with⟨h',t',d',o',u'⟩
    rcases W with⟨h,t,d,o,u⟩
    simp only at q1 q2 hh hd ho ⊢;subst q1 q2 ho;simp only[grow,World.drewN];rw[<-hh,<-hd]
   have hH:HoldsK enc k w g 0 (Array.range l.length):=by
    intro j hj;rw[size_flatK,zkP]at hj;have hj1:j / k<l.length:=(zhl hk0).2 hj;have hj2:j % k<k:=zjl _ hk0;have hjc:j<cells.size:=by rw[g2];exact zcz hj (zbL _ g3)
    have e:(flatK enc k (Array.range l.length))[j]! = cells[j]!:=by rw[get_flatK _ _ _ _ (by simp_all),getElem!_pos (Array.range l.length) _ (by simp_all),Array.getElem_range];rw[getElem!_pos (enc (j / k)) _ (by rw[hek];exact hj2)];simp only[enc,zg6,List.getElem_range];rw[zfM (by omega),zem,Nat.div_add_mod]
    rw[e,zaR];refine⟨?_,?_⟩
    . unfold World.cell?
      simp_all
    . unfold World.frozen?
      simp_all
   have S0:=AnyQ.slices_SortFunc_eq L k aE zE enc hek heo cf hOc fc #[] g 0 cap (Array.range l.length) w eg hcmpL hH hgw (by grind);rw[zkP,hlt]at S0;refine S0.mono ?_
   rintro e w' ⟨rfl,n',os,rfl⟩
   obtain⟨⟨p1,_,p3⟩,_⟩:=pdqAt hO l;have hsr:sortS lt l=(pdq (λi j=>lt (atS l i) (atS l j)) (Array.range l.length) 0 l.length (Lib.bitLen l.length) true true).toList.map (atS l):=rfl;generalize pdq (λi j=>lt (atS l i) (atS l j)) (Array.range l.length) 0 l.length (Lib.bitLen l.length) true true=d at p1 p3 hsr;rw[zkP]at p1;refine left _ rfl rfl .of (szw _ _ _) (λq hq hqk=>oth _ _ _ q hq (λe=>hqk c (by rw[e];exact hk))) ?_;rw[hk];refine⟨λcs hcs=>by grind,putCells id 0 (flatK enc k d) cells,?_,by simp[putCells,g2],by simp_all,g4,g5,λi j cs a hi hj=>?_⟩
   .show((w.heap.modify g _)++os)[g]?=_;rw[Array.getElem?_append_left (by simpa using hgw),Array.getElem?_modify,if_pos rfl,g1];rfl
   . simp only at hi hj ⊢;rw[hsr,List.map_map,zbx,zey]at hi
     have hid:i<d.size:=by
      rcases zji i d.size with h|h
      .exact h
      .simp_all
     rw[za3 hid]at hi;simp only[zbk,Function.comp,zaj]at hi;subst hi;have hjk:j<k:=by have:=(zao.1 hj).1;rw[hn]at this;exact this
     obtain⟨a',e1,e2,e3⟩:=hcl d[i] j hjk;rw[hj]at e1;injection e1 with e1
     have hpos:i*k+j<d.size*k:=by have h1:(i+1)*k<=d.size*k:=zbL _ hid;rw[zhe]at h1;omega
     have hpc:i*k+j<cells.size:=by rw[g2];exact zcz hpos (zbL _ (by omega))
     have e4:CRel S (sortWorldK enc k w g 0 n' d os) a cells[min d[i] (l.length-1)*k+j]!:=by rw[e1];exact e3.mono (λ_ h=>h) (sw _ _ _)
     refine⟨_,?_,e2,(λh=>absurd h (by decide)),λ_=>e4⟩;unfold putCells;rw[Array.getElem?_mapIdx,za3 hpc,zbk,if_pos ⟨zc4 _,by rw[size_flatK];omega⟩,zkg,get_flatK _ _ _ _ hpos];have d1:(i*k+j) / k=i:=by rw[zem,Nat.mul_add_div hk0,zhi hjk,zeT]
     have d2:(i*k+j) % k=j:=by rw[zem,zib,ze4 hjk]
     grind
 |c h=>cases h
def oSort(k:Nat)(ty:TypeId)(fc:FuncId)(nT:T->List AV)(lt:T->T->Bool)(args:aH)(ms:Mem):Option (AV×Mem):=
 haveI:=Classical.propDecidable (∃l:List T,(args=[.row 1000 k 0 l.length,.fn fc []]/\ms=lentR k ty (l.map nT))/\l.length<1000000)
 if h:∃l:List T,(args=[.row 1000 k 0 l.length,.fn fc []]/\ms=lentR k ty (l.map nT))/\l.length<1000000 then some (.tup [],lentR k ty ((sortS lt h.choose).map nT))else none
def zDq(hinj:∀x y,nT x=nT y->x=y){l:List T}(hl:l.length<1000000):oSort k ty fc nT lt [.row 1000 k 0 l.length,.fn fc []] (lentR k ty (l.map nT))=some (.tup [],lentR k ty ((sortS lt l).map nT)):=by
 have hex:∃l':List T,([AV.row 1000 k 0 l.length,.fn fc []]=[.row 1000 k 0 l'.length,.fn fc []]/\lentR k ty (l.map nT)=lentR k ty (l'.map nT))/\l'.length<1000000:=⟨l,⟨rfl,rfl⟩,hl⟩
 unfold oSort;rw[dif_pos hex];have hsp:=hex.choose_spec;generalize hex.choose=l' at hsp;have h2:=hsp.1.2;unfold lentR at h2;simp only[zN,zaC,Ent.mk.injEq]at h2
 have:l=l':=by
  revert h2;generalize l'=r;clear hsp hex hl
  induction l generalizing r with
  |nil=>simp_all
  |cons x l ih=>intro h;cases r with
    |nil=>cases h
    |cons y r=>grind
 rw[this]
def zGv(L:SlLaysF0.n6 P ρ){f:FuncId}(hf:ρ.f 6=f)(he:enters P f=true)(aE:∀w,(isAgg (ρ.t 24)).run P w=.ok true w)(zE:∀w,(Go.sizeOf (ρ.t 24)).run P w=.ok k w)(hk0:0<k)(hn:∀x,(nT x).length=k)
  (eg:enters P fc=true) (hO:SWO lt)
  (hcmp:∀x y,∃v:Int,@callw drOn P C A fc [.agg (nT x),.agg (nT y)] []=some (.v (.int .i64 v),[])/\decide (v<0)=lt x y)
  {o:zcO} (ho:∀args ms,o f args ms=oSort k ty fc nT lt args ms):CallOK P (single f o):=by
 intro g args ms r ms' h;unfold single at h;split at h
 case isFalse=>cases h
 rename_i hg;subst hg;rw[ho]at h;unfold oSort at h;split at h
 case isFalse=>cases h
 rename_i hex;have hsp:=hex.choose_spec;generalize hex.choose=l at h hsp;obtain⟨⟨rfl,rfl⟩,hl⟩:=hsp;injection h with h;injection h with h1 h2;subst h1 h2;refine⟨he,λw S κ vals hvl hS hv hms _=>?_⟩;rw[<-hf];exact sort_calls L aE zE hk0 hn (zAE eg) hO hcmp l hl w S κ vals hvl hS hv hms
end
end
section
open Go.RowKit Go.Maps Go.Sort Go.Proofs Go.Shelf
def keysOf:List (List AV)->Option (List Int)
 |[]=>some []
 |[.v (.int .i64 k),_]::r=>(keysOf r).map (k::·)
 |_=>none
def keysOf_get:∀{es:aI} {ks:aC},keysOf es=some ks->es.length=ks.length/\∀(i:Nat) (k:Int),ks[i]?=some k->∃v,es[i]?=some [.v (.int .i64 k),v]:=by
 intro es
 fun_induction keysOf es with
 |case1=>intro ks h;injection h with h;subst h;exact⟨rfl,λi k h=>by simp at h⟩
 |case2 k v r ih =>
   intro ks h;obtain⟨kr,h1,rfl⟩:=zdf.1 h;obtain⟨h2,h3⟩:=ih h1;refine⟨by simp[h2],λi x hx=>?_⟩
   match i,hx with
   |0,hx=>simp only[zb3,zaj]at hx;subst hx;exact⟨v,rfl⟩
   |i+1,hx=>exact h3 i x hx
 |case3=>intro ks h;cases h
def oKeys(fk:FuncId):List AV->Option (AV×Mem)
 |[.mp es]=>some (.fn fk [.fa 0 [[.mp es]]],[])
 |_=>none
def zle(fk:FuncId):List AV->Option (AV×Mem)
 |[.fn f [.fa 0 [[.mp es]]]]=>match keysOf es with
   |some ks=>if f=fk/\es.length<=1000000/\(∀k∈ks,-9223372036854775808<=k/\k<=9223372036854775807)/\ks.Nodup then some (.sl 1 ((ks.mergeSort leI).map λk=>[.v (.int .i64 k)]),[])else none
   |none=>none
 |_=>none
variable{P:Program}{ρ ρ':Ren}
def one_arg{a:AV}{vals:aM}(h:vals.size=[a].length):∃v,vals=#[v]:=by
 rcases vals with⟨vs⟩
 match vs,h with
 |[v],_=>exact⟨v,rfl⟩
def keys_ok(L:SlLaysZI.n7 P ρ){f fk:FuncId}(hf:ρ.f 7=f)(hk:ρ.f 10=fk)(he:enters P f=true){o:zcO}(ho:∀args ms,o f args ms=match ms with|[]=>oKeys fk args|_=>none):CallOK P (single f o):=by
 intro g args ms r ms' h;unfold single at h;split at h
 case isFalse=>cases h
 rename_i hg;subst hg;rw[ho]at h;split at h
 case h_2=>cases h
 unfold oKeys at h;split at h
 case h_2=>cases h
 rename_i es;injection h with h;injection h with h1 h2;subst h1 h2;refine⟨he,λw S κ vals hvl hS hv _ _=>?_⟩;obtain⟨v0,rfl⟩:=one_arg hvl;have h0:=(hv 0 _ v0 rfl rfl).mp_inv
 cases h0 with
 |mp _ b en clock hSb hg hlen hb hi h2 hkk hvv =>
   have c:=(callsIn_wide (n:=6)).1 (AnyZI.keys_in L Fence.wide 6 trivial rfl (some b) w);rw[hf,hk]at c;refine c.mono ?_
   rintro e w' ⟨rfl,rfl⟩
   have hpush:(w.alloc (.cells #[.map (some b)] (ρ.t 23))).heap=w.heap.push (.cells #[.map (some b)] (ρ.t 23)):=rfl;have hw:∀q,S q->(w.alloc (.cells #[.map (some b)] (ρ.t 23))).heap[q]?=w.heap[q]?:=λq hq=>Below.heap_alloc w _ q (hS q hq)
   refine⟨_,λq=>S q\/q=w.heap.size,κ,rfl,rfl,rfl,.of,by simp,λq hq _=>Below.heap_alloc w _ q hq,λ_ h=>.inl h,λq hq=>?_,λq hq=>?_,λ_ _=>rfl,λb g c _ hd=>by simp[Dm,look]at hd,λb b' g c c' hd=>by simp[Dm,look]at hd,λb ent hb=>by simp[look]at hb,?_⟩
   . rcases hq with hq|rfl
     .exact .inl hq
     .exact .inr (.inl (zaW _))
   . rcases hq with hq|rfl
     .have:=hS q hq;simp;omega
     .simp
   . refine .fn _ _ _ rfl (λj c x hc hx=>?_)
     match j,hc,hx with
     |0,hc,hx=>simp at hc hx;subst hc hx;exact .bx _ _ _ (.inr rfl) ⟨by simp[World.cell?,hpush],rfl⟩ (CRel.mono (λ_ h=>.inl h) hw (.mp _ b en clock hSb hg hlen hb hi h2 hkk hvv))
def zJX(L:SlLaysZI.n6 P ρ)(Lk:SlLaysZI.n10 P ρ')(hs:AnyZI.SortsIn P ρ Fence.wide 4){f fk:FuncId}(hf:ρ.f 6=f)(hk:ρ'.f 10=fk)(hi64:P.underlying (ρ'.t 26)=some (.int .i64))(he:enters P f=true)(h9:enters P (ρ.f 9)=true)(hek:enters P (ρ'.f 10)=true)
  {o:zcO} (ho:∀args ms,o f args ms=match ms with|[]=>zle fk args|_=>none):CallOK P (single f o):=by
 intro g args ms r ms' h;unfold single at h;split at h
 case isFalse=>cases h
 rename_i hg;subst hg;rw[ho]at h;split at h
 case h_2=>cases h
 unfold zle at h;split at h
 case h_2=>cases h
 rename_i fq es;split at h
 case h_2=>cases h
 rename_i ks hks;split at h
 case isFalse=>cases h
 rename_i hc;obtain⟨rfl,hl,hwf,hnd⟩:=hc;injection h with h;injection h with h1 h2;subst h1 h2;refine⟨he,λw S κ vals hvl hS hv _ _=>?_⟩;obtain⟨v0,rfl⟩:=one_arg hvl;obtain⟨vs,rfl,hvs,hp⟩:=(hv 0 _ v0 rfl rfl).fn_inv;obtain⟨vb,rfl⟩:=one_arg hvs;have hbx:=(hp 0 _ vb rfl rfl).fa_inv
 cases hbx with
 |fa _ _ _ _ hz _ _ _=>have:=hz _ (zcH.2 rfl);simp at this
 |bx _ g u hSg hcell hmp =>
 cases hmp with
 |mp _ b en clock hSb hg hlen hb hi h2 hkk hvv =>
   obtain⟨e1,e2⟩:=keysOf_get hks;have hgl:g<w.heap.size:=hS g hSg
   have hkeys:en.toList.map (·.key)=ks.map (Value.int .i64):=by
    apply zdb
    .simp;omega
    .intro i h3 h4;simp at h3 h4;obtain⟨v,hv'⟩:=e2 i ks[i] (zaa h4);have h5:=hkk i _ _ en[i] hv' (za3 h3);simp only[zg6,Array.getElem_toList];generalize en[i].key=q at h5;cases h5;rfl
   have hread:∀x∈en.toList,∃k,k∈ks/\x.key=.int .i64 k:=λx hx=>by have:x.key∈ks.map (Value.int .i64):=hkeys▸zez hx;obtain⟨k,h3,h4⟩:=zbA.1 this;exact⟨k,h3,h4.symm⟩
   let R:Value->Option (DataW Unit×List MemPlace):=λ_=>some (.lit (.bool true),[])
   have hrd:∀x∈en.toList,∀k,x.key=.int .i64 k->WideElems.rd P (ρ'.t 26) R x=some (.int .i64 k,.lit (.bool true)):=λx hx k hk'=>by
    obtain⟨k',h3,h4⟩:=hread x hx;rw[hk']at h4;injection h4 with _ h4;subst h4;have h5:=hwf k h3
    have hw5:(Lit.int .i64 k).wf=true:=by simp only[zU,Lit.wf];exact⟨h5.1,h5.2⟩
    unfold WideElems.rd;rw[hk'];simp[keyOf,hi64,mapKey,R,hw5]
   let D0:DataW Unit:=.map ((en.toList.map (WideElems.rg P (ρ'.t 26) R)).foldr DataW.insert [])
   have hown:w.ownsMap P (ρ'.t 26) R b es.length D0:=by
    refine⟨en,clock,hg,⟨by unfold maxLen;omega,⟨λx hx=>?_,?_,?_⟩,λx hx=>?_⟩,by omega,rfl⟩
    .obtain⟨i,h3,rfl⟩:=List.getElem_of_mem hx;simp at h3;exact hb i _ (by simp[h3])
    .rw[List.Nodup,zcn];intro i j h3 h4 hij;simp at h3 h4 ⊢;exact Nat.ne_of_lt (hi i j _ _ hij (by simp[h3]) (by simp[h4]))
    .rw[hkeys];exact List.Pairwise.map _ (λx y hxy h=>hxy (by injection h)) hnd
    .obtain⟨k,_,h4⟩:=hread x hx;exact⟨_,hrd x hx k h4⟩
   have hperm:(intKeys D0).Perm ks:=by
    have h3:((en.toList.map (WideElems.rg P (ρ'.t 26) R)).foldr DataW.insert []).Perm (en.toList.map (WideElems.rg P (ρ'.t 26) R)):=WideShapes.sorted_perm _;refine(h3.map λp=>Go.intOf p.1).trans (.of_eq ?_);rw[List.map_map];apply zdb
    .simp;omega
    . intro i h4 h5;simp at h4
      have h6:en[i].key=.int .i64 ks[i]:=by have:=congrArg (λl=>l[i]?) hkeys;simpa[h4,h5]using this
      simp only[zg6,Array.getElem_toList,Function.comp];unfold WideElems.rg;rw[hrd _ (by simp) _ h6];rfl
   have hsz:size D0=es.length:=by show List.length _=_;rw[length_sorted];simp[hlen]
   have hseq:=AnyZI.keys_gives Lk Fence.wide 2 trivial rfl (by omega) g b es.length D0 w hgl hcell.1 hown;have c:=AnyZI.sorted_in L Fence.wide 5 trivial trivial trivial trivial rfl (by omega) hs (zAE h9) (ρ'.f 10) #[.pointer (some ⟨g,0,none⟩)] trivial (zAE hek) _ _ (by rw[hsz];unfold maxLen;omega) (by rw[hsz];omega) w hseq;rw[hf,hk]at c;refine((callsIn_wide (n:=5)).1 c).mono ?_
   rintro e w' ⟨v,ss,rfl,hS0,hrow,hnil,hB⟩
   have hw:∀q,S q->w'.heap[q]?=w.heap[q]?:=λq hq=>hB.block q (hS q hq)
   have hss:ss.mergeSort leI=ks.mergeSort leI:=mergeSort_of_perm_i (hS0.trans hperm);have hrow2:w'.ownsRow w.heap.size (ρ.t 26) 1 v ss.length ((ks.mergeSort leI).map encZ):=by rw[<-hss];exact hrow
   have hlen2:ss.length=(ks.mergeSort leI).length:=by rw[<-hss];simp
   refine⟨v,λq=>S q\/(w.heap.size<=q/\q<w'.heap.size),κ,rfl,hB.os,hB.tape,⟨hB.output,λd=>d.elim⟩,hB.size,λq hq _=>hB.block q hq,λ_ h=>.inl h,λq hq=>?_,λq hq=>?_,λ_ _=>rfl,λb g c _ hd=>by simp[Dm,look]at hd,λb b' g c c' hd=>by simp[Dm,look]at hd,λb ent hb=>by simp[look]at hb,?_⟩
   . rcases hq with hq|hq
     .exact .inl hq
     .exact .inr (.inl hq.1)
   . rcases hq with hq|hq
     .exact zcz (hS q hq) hB.size
     .exact hq.2
   . show CRel _ w' (.sl 1 _) v;rcases hrow2.2 with⟨rfl,h0⟩|⟨gb,cap,cur,rfl,hbase,hgb,r1,r2,r3,r4⟩
     .have:ks.mergeSort leI=[]:=zcV (by omega);rw[this];exact .sl 1 [] none 0 0 (λ_ _=>undef) rfl (zaW _) (λcs h=>by simp at h) (.inl rfl) (λi j cs c h=>by simp at h)
     . refine .sl 1 _ _ _ cap (λi _=>.int .i64 ((ks.mergeSort leI).getD i 0)) (by rw[zac,hlen2]) r1 (λcs h=>?_) (.inr ⟨⟨gb,0,none⟩,rfl,.inr ⟨hbase,?_⟩,λi j cs c hi hj=>?_⟩) (λi j cs c hi hj=>?_)
       .obtain⟨k,_,rfl⟩:=zbA.1 h;rfl
       .exact(zda.1 hgb).1
       . obtain⟨k,h3,rfl⟩:=zbA.1 (zav hi)
         match j,hj with
         |0,hj=>rw[zbx]at hi;obtain⟨k',h4,h5⟩:=zdf.1 hi;refine⟨hrow2.cells rfl (i*1+0) _ ?_,rfl⟩;rw[Nat.mul_one,zeT,zbx,h4,zgq,h4];rfl
       . obtain⟨k,h3,rfl⟩:=zbA.1 (zav hi)
         match j,hj with
         |0,hj=>rw[zbx]at hi;obtain⟨k',h4,h5⟩:=zdf.1 hi;simp only[zN,AV.v.injEq,Value.int.injEq]at h5;simp only[zb3,zaj]at hj;subst hj h5;rw[zgq,h4];exact .v _
end
section
open Go.RowKit Go.Proofs Go.Shelf
variable{P:Program}{ρ:Ren}
def oGrow(z:Nat)(e:TypeId):List AV->Option (AV×Mem)
 |[.v (.slice none 0 0),.v (.int .i64 n)]=>if 0<=n/\n<=1000000 then some (.new z e [],[])else none
 |_=>none
def grow_ok(L:Lays8.n4 P ρ){f:FuncId}(hf:ρ.f 4=f){i0:TypeInfo}{zv:Value}(hi:P.info? (ρ.t 25)=some i0)(hz:i0.zero=some zv)(hs:zv.cells.size=i0.size)(h0:0<i0.size)(hb:i0.bytes<=1000)(he:enters P f=true){o:zcO}
  (ho:∀args ms,o f args ms=match ms with|[]=>oGrow i0.size (ρ.t 25) args|_=>none):CallOK P (single f o):=by
 intro g args ms r ms' h;unfold single at h;split at h
 case isFalse=>cases h
 rename_i hg;subst hg;rw[ho]at h;split at h
 case h_2=>cases h
 unfold oGrow at h;split at h
 case h_2=>cases h
 rename_i n;split at h
 case isFalse=>cases h
 rename_i hn;injection h with h;injection h with h1 h2;subst h1 h2;refine⟨he,λw S κ vals hvl hS hv _ _=>?_⟩
 have hvals:vals=#[.slice none 0 0,.int .i64 (n.toNat:Int)]:=by
  rcases vals with⟨vs⟩
  match vs,hvl with
  |[a,b],_=>have ha:=(hv 0 _ a rfl rfl).v_inv;have hb:=(hv 1 _ b rfl rfl).v_inv;rw[ha,hb,ziI hn.1]
 subst hvals;rw[<-hf];by_cases hm:n.toNat=0
 . rw[hm];refine(Any8.slices_Grow_room L none 0 0 0 w (by omega) (by omega) (by omega) (by omega)).mono ?_
   rintro e w' ⟨rfl,rfl⟩
   exact⟨_,S,κ,rfl,rfl,rfl,.of,zaW _,λ_ _ _=>rfl,λ_ h=>h,λ_ h=>.inl h,hS,λ_ _=>rfl,λb g c _ hd=>by simp[Dm,look]at hd,λb b' g c c' hd=>by simp[Dm,look]at hd,λb ent hb=>by simp[look]at hb,h0,.inl ⟨rfl,rfl⟩⟩
 . refine(Any8.slices_Grow_grow L i0 zv hi hz h0 none 0 0 n.toNat [] w (by omega) (by omega) ?_ (by omega) (by simp) (λ_=>rfl) (λa h=>by cases h)).mono ?_
   .have h1:(0+n.toNat)*i0.bytes<=1000000*1000:=Nat.mul_le_mul (by omega) hb;omega
   . rintro e w' ⟨rfl,rfl⟩
     have hge:=grownCap_ge w (0+n.toNat) 0 (ρ.t 25);have hle:=grownCap_le_maxLen w (0+n.toNat) 0 (ρ.t 25) (by unfold maxLen;omega);generalize grownCap w (0+n.toNat) 0 (ρ.t 25)=c at hge hle ⊢;refine⟨_,S,κ,rfl,rfl,rfl,.of,by simp,λq hq _=>Below.heap_alloc w.drew _ q hq,λ_ h=>h,λ_ h=>.inl h,λq hq=>by have:=hS q hq;simp;omega,λ_ _=>rfl,λb g c _ hd=>by simp[Dm,look]at hd,λb b' g c c' hd=>by simp[Dm,look]at hd,λb ent hb=>by simp[look]at hb,h0,.inr ⟨w.heap.size,c,.inl (zaW _),rfl,EntAt.of (.inr h0) ⟨by simp,?_⟩⟩⟩;refine⟨_,heap_alloc_new w.drew _,?_,zc4 _,?_,λhs=>by have:=hS _ hs;omega,λi j cs a hi=>by simp at hi⟩
     .simp only[Array.size_append,size_zeroCells,hs,List.size_toArray,zcN,zaR,zkg];rw[<-zdX];congr 1;omega
     .show c<=maxLen;omega
end
section
variable[Dr]
def zIQ{P:Program}{C:Cfg}{F:AnnF}{f:FuncId}{args:aH}{x:Value}{ms:Mem}(h:callw P C F f args []=some (.v x,ms))(w:World)(vals:aM)(hl:vals.size=args.length)
  (hr:∀(k:Nat) (a:AV) (y:Value),args[k]?=some a->vals[k]?=some y->VRel (λg=>g<w.heap.size) (λ_=>none) (λ_=>False) w a y):Calls P f vals w λe w'=>e=.returned x/\Below w.heap.size w w':=by
 obtain⟨_,h2⟩:=zwE f args [] (.v x) ms h
 have h3:=h2 w (λg=>g<w.heap.size) (λ_=>none) vals hl (λg hg=>hg) (λk a y ha hy=>(hr k a y ha hy).mono (λ_ h=>h) (λ_ _=>rfl) (λ_ h=>h.elim) (λ_ h=>h.elim))
  (λb ent hb=>by simp[look]at hb) (λb b' g c c' hb=>by simp[Dm,look]at hb)
 refine h3.mono ?_
 rintro e w' ⟨y,S',_,rfl,hos,htape,hout,hsz,hold,hsup,_,_,_,_,_,_,hres⟩
 have hy:y=x:=by have:CRel S' w' (.v x) y:=hres;cases this;rfl
 subst hy;exact⟨rfl,hos,htape,hout.1,hsz,λg hg=>hold g hg (λb c hb=>by simp[Dm,look]at hb)⟩
end
section
variable[Dr]
section
variable{w0:World}{S0:aB}{κ0:Kap}{K:aB}{N:Nat}{S:aB}{κ:Kap}{T:Nat->AV}{L:aG}{a:Act}{w:World}
def Good.rebase(h:Good w0 S0 κ0 K N S κ T L a w):Good w S κ (λb=>(L b).isSome=true) N S κ T L a w where
 defers:=h.defers
 size:=h.size
 os:=rfl
 tape:=rfl
 output:=.of
 grow:=zaW _
 old:=λ_ _ _=>rfl
 sup:=λ_ h=>h
 snew:=λ_ h=>.inl h
 slt:=h.slt
 par:=λ_ _=>rfl
 parK:=λ_ _ h=>h
 own:=λb _ c hb hl hk=>.inr ⟨b,c,hb,hl,hk⟩
 inj:=h.inj
 ents:=h.ents
 slots:=h.slots
def Good.mine(h:Good w0 S0 κ0 K N S κ T L a w){g:Nat}(hm:Mine w κ (λb=>(L b).isSome=true) g):Mine w0 κ0 K g:=by
 rcases hm with hm|⟨b,c,hb,hl,hk⟩
 .exact .inl (zbY h.grow hm)
 .exact h.own b g c hb hl hk
def Good.join{S':aB}{κ':Kap}{T':Nat->AV}{L':aG}{a':Act}{w':World}(h:Good w0 S0 κ0 K N S κ T L a w)(h2:Good w S κ (λb=>(L b).isSome=true) N S' κ' T' L' a' w'):Good w0 S0 κ0 K N S' κ' T' L' a' w' where
 defers:=h2.defers
 size:=h2.size
 os:=h2.os.trans h.os
 tape:=h2.tape.trans h.tape
 output:=h.output.trans h2.output
 grow:=zbY h.grow h2.grow
 old:=λg hg hK=>by
  rw[h2.old g (zcz hg h.grow) ?_]
  .exact h.old g hg hK
  . intro b c hl hk;by_cases hb:b<1000
    . rcases h.own b g c hb hl hk with q|⟨b',c',_,q2,q3⟩
      .omega
      grind
    .exact hK b c (h.parK b (by omega) hl) (by rw[<-h.par b (by omega)];exact hk)
 sup:=λg hg=>h2.sup g (h.sup g hg)
 snew:=λg hg=>by
  rcases h2.snew g hg with q|q
  .exact h.snew g q
  .exact .inr (h.mine q)
 slt:=h2.slt
 par:=λb hb=>(h2.par b hb).trans (h.par b hb)
 parK:=λb hb hl=>h.parK b hb (h2.parK b hb hl)
 own:=λb g c hb hl hk=>h.mine (h2.own b g c hb hl hk)
 inj:=h2.inj
 ents:=h2.ents
 slots:=h2.slots
def Far(S:aB)(κ:Kap)(L:aG)(w:World)(g:Nat):Prop:=g<w.heap.size/\¬S g/\∀b c,(L b).isSome=true->κ b≠some (g,c)
def Good.far{S':aB}{κ':Kap}{T':Nat->AV}{L':aG}{a':Act}{w':World}(h2:Good w S κ (λb=>(L b).isSome=true) N S' κ' T' L' a' w'){g:Nat}(hg:Far S κ L w g):w'.heap[g]?=w.heap[g]?/\Far S' κ' L' w' g:=by
 obtain⟨h1,h3,h4⟩:=hg
 have hno:¬Mine w κ (λb=>(L b).isSome=true) g:=λhm=>by
  rcases hm with hm|⟨b,c,_,hl,hk⟩
  .omega
  .exact h4 b c hl hk
 refine⟨h2.old g h1 h4,zcz h1 h2.grow,λhs=>?_,λb c hl hk=>?_⟩
 . rcases h2.snew g hs with q|q
   .exact h3 q
   .exact hno q
 . by_cases hb:b<1000
   .exact hno (h2.own b g c hb hl hk)
   .exact h4 b c (h2.parK b (by omega) hl) (by rw[<-h2.par b (by omega)];exact hk)
def leaf{P:Program}{C:Cfg}{A:Ann}{call:zcO}{n:Nat}(hcall:CallOK P call)(hN:N<=1000){c:Code}{st st':St}{ex:Ex}(hev:aeval P C A N call (iter n) c st=some (ex,st'))
  (h:Good w0 S0 κ0 K N S κ (fs st).1 (fs st).2 a w) {Q:aO}
  (hQ:∀a' w' S' κ',Good w0 S0 κ0 K N S' κ' (fs st').1 (fs st').2 a' w'->(∀g,S g->S' g)->(∀g,Far S κ (fs st).2 w g->w'.heap[g]?=w.heap[g]?/\Far S' κ' (fs st').2 w' g)->(∀g,S g->w'.heap[g]?=w.heap[g]?)->Q ex.toExit a' w'):c.wp P Q a w:=by
 refine wp_mono (zEM hcall hN c st ex st' hev a w ⟨S,κ,h.rebase⟩) ?_
 rintro e a' w' ⟨rfl,S',κ',hg⟩
 refine hQ a' w' S' κ' (h.join hg) hg.sup (λg hf=>hg.far hf) (λg hs=>hg.old g (h.slt g hs) (λb c hl hk=>?_));obtain⟨ent,he⟩:=zaN.1 hl;have:=h.ents b ent he;rw[hk]at this;exact this.notS hs
def leafR{R:Fr}{T:Dic}{j id:Nat}{ops:aK}{draw:Bool}{c:Code}{st st':St}(hb:R.fn.body=some c)(hc:regOf j c=some (.region id ops draw))(ht:tReg R T j st=some st')(hN:R.fn.ntmps<=1000)
  (h:Good w0 S0 κ0 K R.fn.ntmps S κ (fs st).1 (fs st).2 a w) {Q:aO}
  (hQ:∀a' w' S' κ',Good w0 S0 κ0 K R.fn.ntmps S' κ' (fs st').1 (fs st').2 a' w'->(∀g,S g->S' g)->(∀g,Far S κ (fs st).2 w g->w'.heap[g]?=w.heap[g]?/\Far S' κ' (fs st').2 w' g)->(∀g,S g->w'.heap[g]?=w.heap[g]?)->Q .normal a' w'):(Code.region id ops draw).wp R.P Q a w:=
 leaf (n:=0) (zwE (C:=R.C) (A:=R.F)) hN (tReg_sound hb hc ht (iter 0)) h hQ
def Good.forget{T':Nat->AV}(h:Good w0 S0 κ0 K N S κ T L a w)(hT:∀k,T' k=T k\/T' k=.bot):Good w0 S0 κ0 K N S κ T' L a w:=
 { h with
   slots:=λk=>by
    rcases hT k with e|e
    .rw[e];exact h.slots k
    .rw[e];exact .bot _ }
structure FarObj(S:aB)(w:World)(κd:Kap)(Ld:aG):Prop where
 ents:∀b ent,Ld b=some ent->EntAt S κd (λb=>(Ld b).isSome=true) w (κd b) ent
 inj:∀b b' g c c',(Ld b).isSome=true->(Ld b').isSome=true->κd b=some (g,c)->κd b'=some (g,c')->b=b'
def FarObj.mono{S':aB}{w':World}{κd:Kap}{Ld:aG}(h:FarObj S w κd Ld)(hS:∀g,S g->S' g)(hw:∀g,S g->w'.heap[g]?=w.heap[g]?)
  (hd:∀b g c,(Ld b).isSome=true->κd b=some (g,c)->w'.heap[g]?=w.heap[g]?/\¬S' g):FarObj S' w' κd Ld where
 ents:=λb ent hb=>(h.ents b ent hb).mono hS hw (λ_ h=>h) (λ_ _=>rfl) (λg c hk=>hd b g c (by simp[hb]) hk)
 inj:=h.inj
def overK(κ κd:Kap)(Ld:aG):Kap:=λb=>if(Ld b).isSome=true then κd b else κ b
def overL(L Ld:aG):Nat->Option Ent:=λb=>if(Ld b).isSome=true then Ld b else L b
def Good.focus(h:Good w0 S0 κ0 K N S κ T L a w){κd:Kap}{Ld:aG}(hF:FarObj S w κd Ld)(hn:∀b,(Ld b).isSome=true->b<1000/\L b=none)
  (hfar:∀b g c,(Ld b).isSome=true->κd b=some (g,c)->Far S κ L w g/\Mine w0 κ0 K g):Good w0 S0 κ0 K N S (overK κ κd Ld) T (overL L Ld) a w:=by
 have hD1:∀b,(L b).isSome=true->(overL L Ld b).isSome=true:=λb hb=>by
  unfold overL
  grind
 have hκ1:∀b,(L b).isSome=true->overK κ κd Ld b=κ b:=λb hb=>by
  unfold overK
  grind
 have hD2:∀b,(Ld b).isSome=true->(overL L Ld b).isSome=true:=λb hb=>by
  unfold overL
  grind
 have hκ2:∀b,(Ld b).isSome=true->overK κ κd Ld b=κd b:=λb hb=>if_pos hb
 have hcase:∀b,(overL L Ld b).isSome=true->((Ld b).isSome=true/\overL L Ld b=Ld b/\overK κ κd Ld b=κd b)\/(¬(Ld b).isSome=true/\(L b).isSome=true/\overL L Ld b=L b/\overK κ κd Ld b=κ b):=λb hb=>by
  by_cases hd:(Ld b).isSome=true
  .exact .inl ⟨hd,if_pos hd,if_pos hd⟩
  .unfold overL at hb;rw[if_neg hd]at hb;exact .inr ⟨hd,hb,if_neg hd,if_neg hd⟩
 exact{ h with
  par:=λb hb=>by rw[<-h.par b hb];exact if_neg (λhd=>by grind)
  parK:=λb hb hl=>by
   rcases hcase b hl with⟨hd,_⟩|⟨_,hl,_⟩
   .grind
   .exact h.parK b hb hl
  own:=λb g c hb hl hk=>by
   rcases hcase b hl with⟨hd,_,e⟩|⟨_,hl,_,e⟩
   .grind
   .rw[e]at hk;exact h.own b g c hb hl hk
  inj:=λb b' g c c' hl hl' hk hk'=>by
   rcases hcase b hl with⟨hd,_,e⟩|⟨_,hl,_,e⟩
   . rcases hcase b' hl' with⟨hd',_,e'⟩|⟨_,hl',_,e'⟩
     .rw[e]at hk;rw[e']at hk';exact hF.inj b b' g c c' hd hd' hk hk'
     .rw[e]at hk;rw[e']at hk';exact absurd hk' ((hfar b g c hd hk).1.2.2 b' c' hl')
   . rcases hcase b' hl' with⟨hd',_,e'⟩|⟨_,hl',_,e'⟩
     .rw[e]at hk;rw[e']at hk';exact absurd hk ((hfar b' g c' hd' hk').1.2.2 b c hl)
     .rw[e]at hk;rw[e']at hk';exact h.inj b b' g c c' hl hl' hk hk'
  ents:=λb ent hb=>by
   rcases hcase b (by simp[hb])with⟨hd,e1,e2⟩|⟨hd,hl,e1,e2⟩
   .rw[e1]at hb;rw[e2];have hE:=hF.ents b ent hb;exact hE.mono (λ_ h=>h) (λ_ _=>rfl) hD2 hκ2 (λg c hk=>⟨rfl,(hfar b g c hd hk).1.2.1⟩)
   .rw[e1]at hb;rw[e2];have hE:=h.ents b ent hb;exact hE.mono (λ_ h=>h) (λ_ _=>rfl) hD1 hκ1 (λg c hk=>⟨rfl,by rw[hk]at hE;exact hE.notS⟩)
  slots:=λk=>(h.slots k).mono (λ_ h=>h) (λ_ _=>rfl) hD1 hκ1 }
def Good.thing(h:Good w0 S0 κ0 K N S κ T L a w){Ld:aG}(hd:∀b ent,Ld b=some ent->L b=some ent)
  (hc:∀b ent,Ld b=some ent->ent.box=true->∀cs∈ent.es,∀x∈cs,∀v,VRel S κ (λb=>(L b).isSome=true) w x v->VRel S κ (λb=>(Ld b).isSome=true) w x v):FarObj S w κ Ld where
 ents:=λb ent hb=>by have hE:=h.ents b ent (hd b ent hb);exact zAD hE (λ_ h=>h) (λg c hk=>by rw[hk]at hE;exact hE.notS) (λhbx cs hcs x hx v hv=>hc b ent hb hbx cs hcs x hx v hv)
 inj:=λb b' g c c' hb hb'=>by obtain⟨e,he⟩:=zaN.1 hb;obtain⟨e',he'⟩:=zaN.1 hb';exact h.inj b b' g c c' (by simp[hd b e he]) (by simp[hd b' e' he'])
def Good.thingFar(h:Good w0 S0 κ0 K N S κ T L a w){Ld L':aG}(hd:∀b ent,Ld b=some ent->L b=some ent)(hL:∀b,(L' b).isSome=true->(L b).isSome=true/\¬(Ld b).isSome=true):∀b g c,(Ld b).isSome=true->κ b=some (g,c)->Far S κ L' w g/\(b<1000->Mine w0 κ0 K g):=λb g c hb hk=>by
 obtain⟨e,he⟩:=zaN.1 hb;have hE:=h.ents b e (hd b e he);rw[hk]at hE;refine⟨⟨hE.lt,hE.notS,λb' c' hl' hk'=>?_⟩,λhb'=>h.own b g c hb' (by simp[hd b e he]) hk⟩;have:=h.inj b b' g c c' (by simp[hd b e he]) (hL b' hl').1 hk hk'
 simp_all
end
end
section
variable[Dr]
section
variable{w0:World}{S0:aB}{κ0:Kap}{K:aB}{N:Nat}{S S':aB}{κ κ':Kap}{a:Act}{w w':World}{st:St}
abbrev GoodS(w0:World)(S0:aB)(κ0:Kap)(K:aB)(N:Nat)(S:aB)(κ:Kap)(st:St)(a:Act)(w:World):Prop:=Good w0 S0 κ0 K N S κ (get st.t) (look st.m) a w
def GoodS.del(h:GoodS w0 S0 κ0 K N S κ st a w)(b:Nat):GoodS w0 S0 κ0 K N S κ (del b st) a w:=by
 have:=Good.del h b;have e1:get (Ab.del b st).t=λk=>(get st.t k).kill b 4:=funext λk=>zpS b st.t k
 have e2:look (Ab.del b st).m=killL b (look st.m):=funext λc=>zjb b st.m c
 grind
def GoodS.ren(h:GoodS w0 S0 κ0 K N S κ st a w){b s:Nat}(hb:b<1000)(hs:s<1000)(hbs:b≠s)(hL:look st.m s=none):GoodS w0 S0 κ0 K N S (λc=>if c=s then κ b else κ c) (renS b s st) a w:=by
 have:=Good.ren h hb hs hbs hL;have e1:get (renS b s st).t=λk=>(get st.t k).ren b s 4:=funext λk=>zGh b s st.t k
 have e2:look (renS b s st).m=renL b s (look st.m):=funext λc=>zDn hbs st.m c hL
 grind
def get_keep(t:Tab):∀(ks:aF) (j:Nat),get (ks.map λk=>(k,get t k)) j=get t j\/get (ks.map λk=>(k,get t k)) j=.bot
 |[],_=>.inr rfl
 |k::ks,j=>by
   simp only[zbX,get];split
   .simp_all
   .exact get_keep t ks j
def trim(ks ds:aF)(st:St):St:=
 let s:=ds.foldl (λs b=>del b s) st
 { t:=ks.map λk=>(k,get s.t k),m:=sortM s.m }
def GoodS.dels:∀(ds:aF) {st:St},GoodS w0 S0 κ0 K N S κ st a w->GoodS w0 S0 κ0 K N S κ (ds.foldl (λs b=>Ab.del b s) st) a w
 |[],_,h=>h
 |b::ds,_,h=>GoodS.dels ds (h.del b)
def GoodS.trim(h:GoodS w0 S0 κ0 K N S κ st a w)(ks ds:aF):GoodS w0 S0 κ0 K N S κ (trim ks ds st) a w:=by
 have h1:=GoodS.dels ds h;have e2:look (Ab.trim ks ds st).m=look (ds.foldl (λs b=>Ab.del b s) st).m:=funext λc=>zv1 _ c
 unfold GoodS;rw[e2];exact Good.forget h1 (λk=>get_keep _ ks k)
def GoodS.set(h:GoodS w0 S0 κ0 K N S κ st a w)(k:Nat)(x:AV)(hx:VRel S κ (λb=>(look st.m b).isSome=true) w x (a.tmps.getD k undef)):GoodS w0 S0 κ0 K N S κ { st with t:=(k,x)::st.t } a w:=
 { h with
   slots:=λj=>by
    simp only[get];split
    .simp_all
    .exact h.slots j }
def zt0:∀(m1 m2:Mem) (b:Nat),look (m1++m2) b=if(look m1 b).isSome=true then look m1 b else look m2 b
 |[],m2,b=>by simp[look]
 |(j,e)::r,m2,b=>by
   simp only[zg5,look];by_cases hb:b=j
   .simp[hb]
   .simp only[if_neg hb];exact zt0 r m2 b
def GoodS.focus{t:Tab}{m md:Mem}{κd:Kap}(h:GoodS w0 S0 κ0 K N S κ ⟨t,m⟩ a w)(hF:FarObj S w κd (look md))(hn:∀b,(look md b).isSome=true->b<1000/\look m b=none)
  (hfar:∀b g c,(look md b).isSome=true->κd b=some (g,c)->Far S κ (look m) w g/\Mine w0 κ0 K g):GoodS w0 S0 κ0 K N S (overK κ κd (look md)) ⟨t,md++m⟩ a w:=by
 have:=Good.focus h hF hn hfar;have e:look (md++m)=overL (look m) (look md):=funext λb=>zt0 md m b
 grind
structure Objs(w0:World)(κ0:Kap)(K:aB)(S:aB)(κ:Kap)(L:aG)(w:World)(M:Nat->Option Mem)(κd:Nat->Kap):Prop where
 obj:∀i m,M i=some m->FarObj S w (κd i) (look m)
 far:∀i m b g c,M i=some m->(look m b).isSome=true->κd i b=some (g,c)->Far S κ L w g/\Mine w0 κ0 K g
 dis:∀i j m m' b b' g c c',M i=some m->M j=some m'->(look m b).isSome=true->(look m' b').isSome=true->κd i b=some (g,c)->κd j b'=some (g,c')->i=j
variable{M:Nat->Option Mem}{κd:Nat->Kap}{L L':aG}
def Objs.none:Objs w0 κ0 K S κ L w (λ_=>none) κd where
 obj:=λ_ _ h=>by cases h
 far:=λ_ _ _ _ _ h=>by cases h
 dis:=λ_ _ _ _ _ _ _ _ _ h=>by cases h
def Objs.step(h:Objs w0 κ0 K S κ L w M κd)(hS:∀g,S g->S' g)(hf:∀g,Far S κ L w g->w'.heap[g]?=w.heap[g]?/\Far S' κ' L' w' g)(hw:∀g,S g->w'.heap[g]?=w.heap[g]?):Objs w0 κ0 K S' κ' L' w' M κd where
 obj:=λi m hi=>(h.obj i m hi).mono hS hw (λb g c hb hk=>⟨(hf g (h.far i m b g c hi hb hk).1).1,(hf g (h.far i m b g c hi hb hk).1).2.2.1⟩)
 far:=λi m b g c hi hb hk=>⟨(hf g (h.far i m b g c hi hb hk).1).2,(h.far i m b g c hi hb hk).2⟩
 dis:=h.dis
def Objs.kap(h:Objs w0 κ0 K S κ L w M κd)(hk:∀b g c,(L' b).isSome=true->κ' b=some (g,c)->∃b0 c0,(L b0).isSome=true/\κ b0=some (g,c0)):Objs w0 κ0 K S κ' L' w M κd where
 obj:=h.obj
 far:=λi m b g c hi hb hkd=>by
  obtain⟨⟨f1,f2,f3⟩,f4⟩:=h.far i m b g c hi hb hkd;refine⟨⟨f1,f2,λb' c' hl hk'=>?_⟩,f4⟩
  grind
 dis:=h.dis
def Objs.away{i:Nat}{md:Mem}{T:Nat->AV}(hg:Good w0 S0 κ0 K N S κ T L a w)(h:Objs w0 κ0 K S κ L w M κd)(hd:∀b ent,look md b=some ent->L b=some ent)
  (hc:∀b ent,look md b=some ent->ent.box=true->∀cs∈ent.es,∀x∈cs,∀v,VRel S κ (λb=>(L b).isSome=true) w x v->VRel S κ (λb=>(look md b).isSome=true) w x v)
  (hk:∀b,(look md b).isSome=true->b<1000) (hL:∀b,(L' b).isSome=true->(L b).isSome=true/\¬(look md b).isSome=true):Objs w0 κ0 K S κ L' w (λj=>if j=i then some md else M j) (λj=>if j=i then κ else κd j) where
 obj:=λj mj hj=>by
  split at hj
  .rename_i e;injection hj with hj;subst hj;rw[if_pos e];exact Good.thing hg hd hc
  .rename_i e;rw[if_neg e];exact h.obj j mj hj
 far:=λj mj b g c hj hb hkd=>by
  split at hj
  . rename_i e;injection hj with hj;subst hj;rw[if_pos e]at hkd;obtain⟨q1,q2⟩:=Good.thingFar hg hd hL b g c hb hkd
    simp_all
  .rename_i e;rw[if_neg e]at hkd;obtain⟨⟨f1,f2,f3⟩,f4⟩:=h.far j mj b g c hj hb hkd;exact⟨⟨f1,f2,λb' c' hl hk'=>f3 b' c' (hL b' hl).1 hk'⟩,f4⟩
 dis:=λj j' mj mj' b b' g c c' hj hj' hb hb' hkj hkj'=>by
  have sees:∀b,(look md b).isSome=true->(L b).isSome=true:=λb hb=>by obtain⟨e,he⟩:=zaN.1 hb;simp[hd b e he]
  split at hj
  . rename_i e;injection hj with hj;subst hj;rw[if_pos e]at hkj;split at hj'
    .omega
    .rename_i e';rw[if_neg e']at hkj';exact absurd hkj ((h.far j' mj' b' g c' hj' hb' hkj').1.2.2 b c (sees b hb))
  . rename_i e;rw[if_neg e]at hkj;split at hj'
    .rename_i e';injection hj' with hj';subst hj';rw[if_pos e']at hkj';exact absurd hkj' ((h.far j mj b g c hj hb hkj).1.2.2 b' c' (sees b' hb'))
    .rename_i e';rw[if_neg e']at hkj';exact h.dis j j' mj mj' b b' g c c' hj hj' hb hb' hkj hkj'
def only(ks:aF):AV->Bool
 |.v _|.sl ..|.mp ..|.fp ..|.fa ..=>true
 |.row b _ _ _=>ks.contains b
 |.map b=>ks.contains b
 |.loc b _ _ _=>ks.contains b
 |_=>false
def zAT{D D':aB}{ks:aF}(hD:∀b∈ks,D' b){x:AV}{v:Value}(ho:only ks x=true)(h:VRel S κ D w x v):VRel S κ D' w x v:=by
 cases x with
 |v x=>cases h with|c h=>exact .c h
 |sl z es=>exact .c h.sl_inv
 |mp es=>exact .c h.mp_inv
 |fp cs=>exact .c h.fp_inv
 |fa z es=>exact .c h.fa_inv
 |row b z i n =>
   have hb:=hD b (by simpa[only]using ho)
   cases h with
   |c h=>cases h
   |row0 _ _ hd hk=>exact .row0 _ _ hb hk
   |row _ _ _ _ g c off' cap hd hk hn ho hc=>exact .row _ _ _ _ g c off' cap hb hk hn ho hc
 |map b=>have hb:=hD b (by simpa[only]using ho);obtain⟨g,c,hd,hk,rfl⟩:=h.map_inv;exact .map b g c hb hk
 |loc b z i o=>have hb:=hD b (by simpa[only]using ho);obtain⟨g,c,hd,hk,rfl⟩:=h.loc_inv;exact .loc b z i o g c hb hk
 |_=>cases ho
def onlyM(md:Mem):Bool:=md.all λp=>!p.2.box||p.2.es.all λcs=>cs.all (only (md.map (·.1)))
def zNm{D:aB}{md:Mem}(h:onlyM md=true):∀b ent,look md b=some ent->ent.box=true->∀cs∈ent.es,∀x∈cs,∀v,VRel S κ D w x v->VRel S κ (λb=>(look md b).isSome=true) w x v:=by intro b ent hb hbx cs hcs x hx v hv;have h1:=zbV.1 h (b,ent) (zoe hb);simp only[hbx,zaG,zc8]at h1;have h2:=zbV.1 (zbV.1 h1 cs hcs) x hx;exact zAT (λb hb=>zjW (by simpa[ids]using hb)) h2 hv
def toRow{D:aB}{g c z:Nat}{e:TypeId}{cs:aH}{xs:aI}(hE:EntAt S κ D w (some (g,c)) ⟨z,e,[cs],true⟩)(hz:z<=maxLen)(hx:xs.length=cs.length)
  (hv:∀(j:Nat) (x:AV) (u:Value),cs[j]?=some x->VRel S κ D w x u->xs[j]?=some [.v u]):∀κ' D',EntAt S κ' D' w (some (g,z)) ⟨1,e,xs,false⟩:=by
 intro κ' D';obtain⟨h1,cells,h2,h3,h4,h5,h6,h7⟩:=hE.1 (.inl rfl);have hcs:cs.length=z:=h1 cs (by simp)
 have hc:c=1:=by have:c<=1:=h5;simp only[ziJ]at h4;omega
 subst hc
 have key:∀j,j<z->∃u,cells[j]?=some u/\u.oneCell'=true/\xs[j]?=some [.v u]:=λj hj=>by
  have hj':j<cs.length:=by omega
  obtain⟨u,u1,u2,u3,_⟩:=h7 0 j cs cs[j] rfl (zaa hj')
  grind
 refine EntAt.of (.inr (by show 0<1;omega)) ⟨λr hr=>?_,cells,h2,?_,?_,hz,h6,λi j r av hi hj=>?_⟩
 . obtain⟨j,hj⟩:=zc3.1 hr
   grind
 .simpa using h3
 .simp_all
 . obtain⟨u,u1,u2,hu⟩:=key i (by grind);rw[hi]at hu;injection hu with hu;subst hu
   cases j with
   |succ j=>simp at hj
   |zero=>simp at hj;subst hj;exact⟨u,by simpa using u1,u2,(λhb=>by cases hb),λ_=>.v u⟩
def GoodS.swap(h:GoodS w0 S0 κ0 K N S κ st a w){B g c c2:Nat}{e2:Ent}(hB:(look st.m B).isSome=true)(hB2:B<1000)(hk:κ B=some (g,c))(hE:∀κ' D',EntAt S κ' D' w (some (g,c2)) e2):GoodS w0 S0 κ0 K N S (overK κ (λ_=>some (g,c2)) (look [(B,e2)])) ⟨(Ab.del B st).t,(B,e2)::(Ab.del B st).m⟩ a w:=by
 have h1:=h.del B;have hlook:∀b,look (Ab.del B st).m b=killL B (look st.m) b:=λb=>zjb B st.m b
 have hone:∀b,(look [(B,e2)] b).isSome=true->b=B:=λb hb=>by
  simp only[look]at hb
  simp_all
 refine GoodS.focus (md:=[(B,e2)]) (t:=(Ab.del B st).t) (m:=(Ab.del B st).m) h1 ⟨λb ent hb=>?_,λb b' g' c1 c1' hb hb' _ _=>by grind⟩ (λb hb=>?_) (λb g' c' hb hkb=>?_)
 . have hbB:=hone b (by simp[hb]);subst hbB;simp only[look,if_true,zaj]at hb
   grind
 .rw[hone b hb];refine⟨hB2,?_⟩;rw[hlook];simp[killL]
 . injection hkb with hkb;injection hkb with e1 _;subst e1;obtain⟨ent,he⟩:=zaN.1 hB;have hEB:=h.ents B ent he;rw[hk]at hEB;refine⟨⟨hEB.lt,hEB.notS,λb' c' hl hk'=>?_⟩,h.own B g c hB2 (by simp[he]) hk⟩;rw[hlook]at hl;unfold killL at hl;split at hl
   .cases hl
   . rename_i hne;refine hne (h.inj b' B g c' c ?_ (by simp[he]) hk' hk)
     simp_all
def Objs.swap{B g c c2:Nat}{e2:Ent}(h:Objs w0 κ0 K S κ (look st.m) w M κd)(hB:(look st.m B).isSome=true)(hk:κ B=some (g,c)):Objs w0 κ0 K S (overK κ (λ_=>some (g,c2)) (look [(B,e2)])) (look ((B,e2)::(Ab.del B st).m)) w M κd:=by
 refine h.kap (λb g' c' hl hkb=>?_);unfold overK at hkb;split at hkb
 .grind
 . rename_i hne;simp only[look]at hl hne;split at hl
   .simp_all
   . have hlook:look (Ab.del B st).m b=killL B (look st.m) b:=zjb B st.m b;rw[hlook]at hl;unfold killL at hl
     grind
def GoodS.start{args:aH}{vals:aM}{ms:Mem}{N:Nat}(hvl:vals.size=args.length)(hN:args.length<=N)(hS:∀g,S g->g<w.heap.size)
  (hv:∀(k:Nat) (a:AV) (x:Value),args[k]?=some a->vals[k]?=some x->VRel S κ (Dm ms) w a x) (hms:∀b ent,look ms b=some ent->EntAt S κ (Dm ms) w (κ b) ent)
  (hinj:∀b b' g c c',Dm ms b->Dm ms b'->κ b=some (g,c)->κ b'=some (g,c')->b=b'):GoodS w S κ (Dm ms) N S κ { t:=argTab 0 args,m:=ms } { tmps:=vals++Array.replicate (N-vals.size) undef,defers:=[] } w where
 defers:=rfl
 size:=by simp;omega
 os:=rfl
 tape:=rfl
 output:=.of
 grow:=zaW _
 old:=λ_ _ _=>rfl
 sup:=λ_ h=>h
 snew:=λ_ h=>.inl h
 slt:=hS
 par:=λ_ _=>rfl
 parK:=λ_ _ h=>h
 own:=λb g c' hb' hl hk=>.inr ⟨b,c',hb',hl,hk⟩
 inj:=hinj
 ents:=λb ent he=>hms b ent he
 slots:=λk=>by
  rw[zAf];simp only[zc4,if_true,zkg]
  cases hk:args[k]? with
  |none=>exact .bot _
  |some a =>
    have hlt:k<vals.size:=by have:=(zao.1 hk).1;omega
    have:(vals++Array.replicate (N-vals.size) undef).getD k undef=vals[k]:=by rw[zc5,zgE,if_pos hlt,za3 hlt];rfl
    rw[this];exact hv k a _ hk (za3 hlt)
def zJB:∀(ds:aF) (st:St) (b:Nat),(look (ds.foldl (λs b=>del b s) st).m b).isSome=true->(look st.m b).isSome=true
 |[],_,_,h=>h
 |d::ds,st,b,h=>by
   have h1:=zJB ds (del d st) b h;have h2:look (del d st).m b=killL d (look st.m) b:=zjb d st.m b;rw[h2]at h1;unfold killL at h1
   grind
def zDo(ks ds:aF)(st:St)(b:Nat)(h:(look (trim ks ds st).m b).isSome=true):(look st.m b).isSome=true:=by have e:look (trim ks ds st).m b=look (ds.foldl (λs b=>del b s) st).m b:=zv1 _ b;rw[e]at h;exact zJB ds st b h
def Now(w0:World)(S0:aB)(κ0:Kap)(K:aB)(N:Nat)(M:Nat->Option Mem)(κd:Nat->Kap)(st:St)(a:Act)(w:World):Prop:=
 ∃S κ,GoodS w0 S0 κ0 K N S κ st a w/\Objs w0 κ0 K S κ (look st.m) w M κd
def Now.trim{N:Nat}{M:Nat->Option Mem}{κd:Nat->Kap}{st st':St}(h:Now w0 S0 κ0 K N M κd st a w)(ks ds:aF)(e:trim ks ds st=st'):Now w0 S0 κ0 K N M κd st' a w:=by obtain⟨S,κ,h1,h2⟩:=h;subst e;exact⟨S,κ,h1.trim ks ds,h2.kap (λb g c hl hk=>⟨b,c,zDo ks ds st b hl,hk⟩)⟩
def Now.bool{N:Nat}{M:Nat->Option Mem}{κd:Nat->Kap}{st:St}(h:Now w0 S0 κ0 K N M κd st a w){k:Nat}{b:Bool}(hk:get st.t k=.v (.bool b)):a.eval (.tmp k)=.bool b:=by obtain⟨S,κ,h1,_⟩:=h;have:=h1.slots k;rw[hk]at this;exact this.v_inv
end
def opsAt(j:Nat)(c:Code):Array Oper:=match regOf j c with
 |some (.region _ o _)=>o
 |_=>#[]
def ztI(j:Nat)(c:Code):Bool:=match regOf j c with
 |some (.region _ _ d)=>d
 |_=>false
end
section
variable[Dr]
open Go.ChangeMaps (setBlock)
section
variable{w0:World}{S0:aB}{κ0:Kap}{K:aB}{N:Nat}{S S':aB}{κ κ':Kap}{a:Act}{w w':World}{st st':St}{L L':aG}
abbrev Sat2:=(Nat->Prop)->Kap->(Nat->Option Ent)->World->Prop
structure Stable(X:Sat2):Prop where
 step:∀{S S':aB} {κ κ':Kap} {L L':aG} {w w':World},X S κ L w->(∀g,S g->S' g)->(∀g,Far S κ L w g->w'.heap[g]?=w.heap[g]?/\Far S' κ' L' w' g)->(∀g,S g->w'.heap[g]?=w.heap[g]?)->X S' κ' L' w'
 kap:∀{S:aB} {κ κ':Kap} {L L':aG} {w:World},X S κ L w->(∀b g c,(L' b).isSome=true->κ' b=some (g,c)->∃b0 c0,(L b0).isSome=true/\κ b0=some (g,c0))->X S κ' L' w
def Stable.none:Stable λ_ _ _ _=>True:=⟨λ_ _ _ _=>trivial,λ_ _=>trivial⟩
def NowP(w0:World)(S0:aB)(κ0:Kap)(K:aB)(N:Nat)(X:Sat2)(st:St)(a:Act)(w:World):Prop:=∃S κ,GoodS w0 S0 κ0 K N S κ st a w/\X S κ (look st.m) w
def NowP.trim{X:Sat2}(hX:Stable X)(h:NowP w0 S0 κ0 K N X st a w)(ks ds:aF)(e:Ab.trim ks ds st=st'):NowP w0 S0 κ0 K N X st' a w:=by obtain⟨S,κ,h1,h2⟩:=h;subst e;exact⟨S,κ,h1.trim ks ds,hX.kap h2 (λb g c hl hk=>⟨b,c,zDo ks ds st b hl,hk⟩)⟩
def NowP.bool{X:Sat2}(h:NowP w0 S0 κ0 K N X st a w){k:Nat}{b:Bool}(hk:get st.t k=.v (.bool b)):a.eval (.tmp k)=.bool b:=by obtain⟨S,κ,h1,_⟩:=h;have:=h1.slots k;rw[hk]at this;exact this.v_inv
def cnt(a:Act)(k:Nat):Nat:=match a.tmps.getD k undef with
 |.int _ n=>n.toNat
 |_=>0
def NowP.cnt{X:Sat2}(h:NowP w0 S0 κ0 K N X st a w){k:Nat}{q:IntKind}{n:Int}(hk:get st.t k=.v (.int q n)):Ab.cnt a k=n.toNat:=by obtain⟨S,κ,h1,_⟩:=h;have:=h1.slots k;rw[hk]at this;unfold Ab.cnt;rw[this.v_inv]
def stepP{R:Fr}{T:Dic}{j id:Nat}{ops:aK}{draw:Bool}{c:Code}{X:Sat2}(hX:Stable X)(hb:R.fn.body=some c)(hN:R.fn.ntmps<=1000)(hr:regOf j c=some (.region id ops draw))(ht:tReg R T j st=some st')
  (h:NowP w0 S0 κ0 K R.fn.ntmps X st a w) {Q:aO} (hQ:∀a' w',NowP w0 S0 κ0 K R.fn.ntmps X st' a' w'->Q .normal a' w'):(Code.region id ops draw).wp R.P Q a w:=by
 obtain⟨S,κ,h1,h2⟩:=h;exact leafR hb hr ht hN h1 (λa' w' S' κ' hg hS hf hw=>hQ a' w' ⟨S',κ',hg,hX.step h2 hS hf hw⟩)
def tSeg(R:Fr)(T:Dic)(j i n:Nat)(st:St):Option St:=
 match R.fn.body with
 |some c=>match regOf j c with
   |some (.region _ ops _)=>tRun R.P R.C R.F T (R.F R.f).lits R.fn.ntmps ops i ((ops.toList.drop i).take n) (preDel ((ops.toList.drop i).take n) st) λ_ st1=>force st1 some
   |_=>none
 |none=>none
def ops_more{P:Program}{C:Cfg}{M:aF}{call:zcO}{N:Nat}{ops:aK}{Q:aO}{rest:aF}(hcall:CallOK P call)(hN:N<=1000):∀(l:List Oper) (k:Nat) (st st':St) (rs:List Mk),runOps P C M call N ops k l st=some (rs,st')->(∀j o,l[j]?=some o->ops[k+j]?=some o)->∀(a:Act) (w:World),GoodF w0 S0 κ0 K N (fs st) a w->(∀a' w',GoodF w0 S0 κ0 K N (fs st') a' w'->wpOps P ops Q rest a' w')->wpOps P ops Q (List.range' k l.length++rest) a w
 |[],k,st,st',rs,h,_,a,w,hg,hQ=>by
   simp[runOps]at h
   simp_all
 |o::l,k,st,st',rs,h,hl,a,w,hg,hQ=>by
   simp only[runOps]at h
   cases hs:aStep P C M call N ops o st with
   |none=>simp[hs]at h
   |some q =>
     obtain⟨r,st1⟩:=q;simp only[hs]at h
     cases ho:runOps P C M call N ops (k+1) l st1 with
     |none=>simp[ho]at h
     |some q=>obtain⟨rs',st2⟩:=q;simp only[zJ,ho]at h;obtain⟨_,rfl⟩:=h;obtain⟨e1,e2⟩:=zFs hs;rw[zcA,List.range'_succ,zg5,wpOps_cons];refine zyS hcall hN (hl 0 o rfl) e1 hg (λa' w' hg'=>?_);rw[<-e2]at hg';exact ops_more hcall hN l (k+1) st1 st2 rs' ho (λj o' hj=>by have:=hl (j+1) o' (by simpa using hj);grind) a' w' hg' hQ
def segP{R:Fr}{T:Dic}{j i n id:Nat}{ops:aK}{draw:Bool}{c:Code}{X:Sat2}(hX:Stable X)(hb:R.fn.body=some c)(hN:R.fn.ntmps<=1000)(hr:regOf j c=some (.region id ops draw))(ht:tSeg R T j i n st=some st')(hin:i+n<=ops.size)
  (h:NowP w0 S0 κ0 K R.fn.ntmps X st a w) {Q:aO} {rest:aF} (hQ:∀a' w',NowP w0 S0 κ0 K R.fn.ntmps X st' a' w'->wpOps R.P ops Q rest a' w'):wpOps R.P ops Q (List.range' i n++rest) a w:=by
 obtain⟨S,κ,h1,h2⟩:=h;unfold tSeg at ht;simp only[hb,hr]at ht;obtain⟨rs,st1,hrun,hst⟩:=zv3 _ _ _ _ _ ht;rw[ztX]at hst;injection hst with hst;subst hst
 have hl:((ops.toList.drop i).take n).length=n:=by rw[zdc,ze6];simp;omega
 have hp:GoodF w S κ (λb=>(look st.m b).isSome=true) R.fn.ntmps (fs (preDel ((ops.toList.drop i).take n) st)) a w:=GoodF.preDel _ st ⟨S,κ,Good.rebase h1⟩
 have:=ops_more (rest:=rest) (Q:=Q) (zwE (C:=R.C) (A:=R.F)) hN _ i _ _ rs hrun (λk o hk=>by
  grind) a w hp (λa' w' hg=>by
  obtain⟨S',κ',hg⟩:=hg;refine hQ a' w' ⟨S',κ',Good.join h1 hg,hX.step h2 hg.sup (λg hf=>hg.far hf) (λg hs=>hg.old g (h1.slt g hs) (λb c hl hk=>?_))⟩;obtain⟨ent,he⟩:=zaN.1 hl;have:=h1.ents b ent he;rw[hk]at this
  exact this.notS hs)
 simp_all
def getD_put{d:Nat}{y:Value}(hd:d<a.tmps.size)(k:Nat):(a.put (some d) y).tmps.getD k undef=if k=d then y else a.tmps.getD k undef:=by
 show(a.tmps.setIfInBounds d y).getD k undef=_;rw[zc5,zc5,Array.getElem?_setIfInBounds]
 grind
def GoodS.put(h:GoodS w0 S0 κ0 K N S κ st a w){d:Nat}(hd:d<N)(x:AV)(y:Value)(hx:VRel S κ (λb=>(look st.m b).isSome=true) w x y):GoodS w0 S0 κ0 K N S κ { st with t:=(d,x)::st.t } (a.put (some d) y) w:=
 { h with
   defers:=h.defers
   size:=by show(a.tmps.setIfInBounds d y).size=N;simp[h.size]
   slots:=λk=>by
    rw[getD_put (by rw[h.size];exact hd)];simp only[get];by_cases hk:k=d
    .simp_all
    .simp only[if_neg hk];exact h.slots k }
def GoodS.world(h:GoodS w0 S0 κ0 K N S κ st a w)(hos:w'.os=w.os)(htape:w'.tape=w.tape)(hout:OutD w w')(hsz:w.heap.size<=w'.heap.size)
  (hb:∀g,g<w.heap.size->¬(Far S κ (look st.m) w g/\Mine w0 κ0 K g)->w'.heap[g]?=w.heap[g]?):GoodS w0 S0 κ0 K N S κ st a w':=by
 have hS:∀g,S g->w'.heap[g]?=w.heap[g]?:=λg hg=>hb g (h.slt g hg) (λq=>q.1.2.1 hg)
 have hκ:∀b ent g c,look st.m b=some ent->κ b=some (g,c)->w'.heap[g]?=w.heap[g]?/\¬S g:=λb ent g c he hk=>by have hE:=h.ents b ent he;rw[hk]at hE;exact⟨hb g hE.lt (λq=>q.1.2.2 b c (by simp[he]) hk),hE.notS⟩
 exact{ h with
  os:=hos.trans h.os
  tape:=htape.trans h.tape
  output:=h.output.trans hout
  grow:=zbY h.grow hsz
  old:=λg hg hK=>by
   rw[hb g (zcz hg h.grow) (λq=>?_)]
   .exact h.old g hg hK
   . rcases q.2 with q|⟨b,c,_,q1,q2⟩
     .omega
     .exact hK b c q1 q2
  slt:=λg hg=>zcz (h.slt g hg) hsz
  ents:=λb ent he=>(h.ents b ent he).mono (λ_ h=>h) hS (λ_ h=>h) (λ_ _=>rfl) (λg c hk=>hκ b ent g c he hk)
  slots:=λk=>(h.slots k).mono (λ_ h=>h) hS (λ_ h=>h) (λ_ _=>rfl) }
structure zyW(S:aB)(w:World)(g:Nat)(es:aI)(en:Array MapEntry)(clock:Nat):Prop where
 inS:S g
 at_:w.heap[g]?=some (.map en clock)
 len:en.size=es.length
 born:∀(i:Nat) (e:MapEntry),en[i]?=some e->e.born<clock
 incr:∀(i j:Nat) (e f:MapEntry),i<j->en[i]?=some e->en[j]?=some f->e.born<f.born
 two:∀cs∈es,∃k v,cs=[k,v]
 key:∀(i:Nat) (k v:AV) (e:MapEntry),es[i]?=some [k,v]->en[i]?=some e->CRel S w k e.key
 val:∀(i:Nat) (k v:AV) (e:MapEntry),es[i]?=some [k,v]->en[i]?=some e->CRel S w v e.val
def zyW.mono{g:Nat}{es:aI}{en:Array MapEntry}{clock:Nat}(h:zyW S w g es en clock)(hS:∀g,S g->S' g)(hw:∀g,S g->w'.heap[g]?=w.heap[g]?):zyW S' w' g es en clock where
 inS:=hS g h.inS
 at_:=(hw g h.inS).trans h.at_
 len:=h.len
 born:=h.born
 incr:=h.incr
 two:=h.two
 key:=λi k v e h1 h2=>(h.key i k v e h1 h2).mono hS hw
 val:=λi k v e h1 h2=>(h.val i k v e h1 h2).mono hS hw
def seenOf(en:Array MapEntry)(done:aF):Array Nat:=(done.map λj=>(en[j]?.map (·.born)).getD 0).toArray
structure Rng(w0:World)(κ0:Kap)(K:aB)(r g:Nat)(es:aI)(en:Array MapEntry)(clock:Nat)(done:aF)(S:aB)(κ:Kap)(L:aG)(w:World):Prop where
 held:zyW S w g es en clock
 far:Far S κ L w r
 mine:Mine w0 κ0 K r
 iter:w.heap[r]?=some (.mapIter (some g) clock (seenOf en done) clock)
 nodup:done.Nodup
 lt:∀j∈done,j<en.size
def Rng.stable{r g:Nat}{es:aI}{en:Array MapEntry}{clock:Nat}{done:aF}:Stable (Rng w0 κ0 K r g es en clock done) where
 step:=λh hS hf hw=>⟨h.held.mono hS hw,(hf r h.far).2,h.mine,(hf r h.far).1.trans h.iter,h.nodup,h.lt⟩
 kap:=λh hk=>⟨h.held,⟨h.far.1,h.far.2.1,λb c hl hkb=>by
  obtain⟨b0,c0,q1,q2⟩:=hk b r c hl hkb
  exact h.far.2.2 b0 c0 q1 q2⟩,h.mine,h.iter,h.nodup,h.lt⟩
def zH5{en:Array MapEntry}{done:aF}(hi:∀(i j:Nat) (e f:MapEntry),i<j->en[i]?=some e->en[j]?=some f->e.born<f.born)(hl:∀j∈done,j<en.size){j:Nat}{e:MapEntry}(he:en[j]?=some e):(seenOf en done).contains e.born=true↔j∈done:=by
 unfold seenOf
 grind
def zE9{en:Array MapEntry}{done:aF}{j:Nat}{e:MapEntry}(he:en[j]?=some e):seenOf en (done++[j])=(seenOf en done).push e.born:=by
 unfold seenOf
 simp_all
def zqG{P:Program}{ops:aK}{Q:aO}{i:Nat}{o:Oper}{K':Act->World->Prop}{y:Value}(hi:ops[i]?=some o)(hg:o.guard=none)(hx:(execOp a.eval o).run P w=.ok (.value y) w')(hK:K' (a.put o.dst y) w'):wpOp P ops Q i K' a w:=by unfold wpOp;simp only[hi];rw[if_pos (by unfold Region.wanted;rw[hg])];left;unfold Oper.wp;rw[hx];exact hK
def opIs(ops:aK)(i d:Nat)(op:Op):Prop:=(ops[i]?).map (λo=>(o.dst,o.op,o.guard))=some (some d,op,none)
def opIs.get{ops:aK}{i d:Nat}{op:Op}(h:opIs ops i d op):∃o,ops[i]?=some o/\o.dst=some d/\o.op=op/\o.guard=none:=by
 unfold opIs at h
 simp_all
def zA0{P:Program}{ops:aK}{Q:aO}{i d m:Nat}{t k e:TypeId}{es:aI}{K':Act->World->Prop}(ho:opIs ops i d (.range t (.tmp m)))(ht:P.underlying t=some (.map k e))(hd:d<N)
  (h:NowP w0 S0 κ0 K N (λ_ _ _ _=>True) st a w) (hm:get st.t m=.mp es)
  (hK:∀a' w' r g en clock,NowP w0 S0 κ0 K N (Rng w0 κ0 K r g es en clock []) { st with t:=(d,.v (.pointer (some ⟨r,0,none⟩)))::st.t } a' w'->K' a' w'):wpOp P ops Q i K' a w:=by
 obtain⟨S,κ,h1,_⟩:=h;obtain⟨o,o1,o2,o3,o4⟩:=ho.get;have hv:=h1.slots m;rw[hm]at hv;have hc:=hv.mp_inv;generalize hy:a.tmps.getD m undef=y at hc
 cases hc with
 |mp _ g en clock hS hg hlen hb hi h2 hk hv =>
   have hrun:(execOp a.eval o).run P w=.ok (.value (.pointer (some ⟨w.heap.size,0,none⟩))) (w.alloc (.mapIter (some g) clock #[] clock)):=by have:a.eval (.tmp m)=.map (some g):=hy;simp[execOp,o3,this,run_range_map w t k e g en clock ht hg]
   refine zqG o1 o4 hrun ?_;rw[o2]
   have hw:GoodS w0 S0 κ0 K N S κ st a (w.alloc (.mapIter (some g) clock #[] clock)):=h1.world rfl rfl .of (by simp_all) (λq hq _=>by
    show(w.heap.push _)[q]?=_
    grind)
   have hS':∀q,S q->(w.alloc (.mapIter (some g) clock #[] clock)).heap[q]?=w.heap[q]?:=λq hq=>by
    show(w.heap.push _)[q]?=_;have:=h1.slt q hq
    grind
   refine hK _ _ w.heap.size g en clock ⟨S,κ,hw.put hd _ _ (.c (.v _)),?_⟩;refine⟨zyW.mono ⟨hS,hg,hlen,hb,hi,h2,hk,hv⟩ (λ_ h=>h) hS',⟨by simp_all,λhs=>by have:=h1.slt _ hs;omega,λb c hl hk=>?_⟩,.inl h1.grow,heap_alloc_new w _,zjh,λj hj=>by cases hj⟩;obtain⟨ent,he⟩:=zaN.1 hl;have hE:=h1.ents b ent he;rw[hk]at hE;have:=hE.lt;omega
def zK9{w1:World}{r:Nat}{o:Obj}{g:Nat}(h:g≠r):(setBlock w1 r o).heap[g]?=w1.heap[g]?:=by
 show(w1.heap.setIfInBounds r o)[g]?=_
 grind
def zNw{w1:World}{r:Nat}{o:Obj}(h:r<w1.heap.size):(setBlock w1 r o).heap[r]?=some o:=by
 show(w1.heap.setIfInBounds r o)[r]?=_
 simp_all
def next_op{P:Program}{ops:aK}{Q:aO}{i d it r g:Nat}{es:aI}{en:Array MapEntry}{clock:Nat}{done:aF}{K':Act->World->Prop}(ho:opIs ops i d (.next (.tmp it) false))(hd:d<N)
  (h:NowP w0 S0 κ0 K N (Rng w0 κ0 K r g es en clock done) st a w) (hm:get st.t it=.v (.pointer (some ⟨r,0,none⟩)))
  (hend:(∀j,j<es.length->j∈done)->∀a' w',NowP w0 S0 κ0 K N (Rng w0 κ0 K r g es en clock done) { st with t:=(d,.tup [.v (.bool false)])::st.t } a' w'->K' a' w')
  (hK:∀j k v,j<es.length->j ∉ done->es[j]?=some [k,v]->∀a' w',NowP w0 S0 κ0 K N (Rng w0 κ0 K r g es en clock (done++[j])) { st with t:=(d,.tup [.v (.bool true),k,v])::st.t } a' w'->K' a' w'):wpOp P ops Q i K' a w:=by
 obtain⟨S,κ,h1,h2⟩:=h;obtain⟨o,o1,o2,o3,o4⟩:=ho.get;have hv:=h1.slots it;rw[hm]at hv;have hy:a.eval (.tmp it)=.pointer (some ⟨r,0,none⟩):=hv.v_inv
 have hnext:=run_next_at (P:=P) w o.type r g clock clock (seenOf en done) en clock h2.iter h2.held.at_ (λx hx=>by
  obtain⟨j,hj⟩:=zc3.1 hx
  exact h2.held.born j x (by simpa using hj)) (zaW _)
 rcases hnext with⟨hsz,hrun⟩|⟨e,he,w1,hw1,hrun⟩
 . refine zqG (w':=w) (y:=.tuple #[.bool false]) o1 o4 (by simp[execOp,o3,hy,hrun]) ?_;rw[o2];refine hend (λj hj=>?_) _ _ ⟨S,κ,h1.put hd _ _ (.c (.tup _ _ rfl (λj c x hj hx=>?_))),h2⟩
   . have hj':j<en.size:=by rw[h2.held.len];exact hj
     have hget:=za3 hj';refine(zH5 h2.held.incr h2.lt hget).1 ?_
     cases hc:(seenOf en done).contains en[j].born with
     |true=>rfl
     |false =>
       have:en[j]∈leftOf en (seenOf en done):=by unfold leftOf;exact Array.mem_filter.2 ⟨zfK hj',by rw[hc];rfl⟩
       simp_all
   . match j with
     |0=>simp at hj hx;subst hj;subst hx;exact .v _
     |j+1=>simp at hj
 . have hmem:e∈en/\(seenOf en done).contains e.born=false:=by unfold leftOf at he;have:=Array.mem_filter.1 (zcg.1 he);exact⟨this.1,by simpa using this.2⟩
   obtain⟨j,hj⟩:=zf5.1 hmem.1;have hjl:j<en.size:=(zda.1 hj).1
   have hjd:j ∉ done:=λhq=>by
    have:=(zH5 h2.held.incr h2.lt hj).2 hq
    simp_all
   obtain⟨k,v,hkv⟩:∃k v,es[j]?=some [k,v]:=by
    have hl:j<es.length:=by rw[<-h2.held.len];exact hjl
    obtain⟨k,v,e⟩:=h2.held.two es[j] (zau hl)
    simp_all
   have hh1:w1.heap=w.heap/\w1.os=w.os/\w1.tape=w.tape/\OutD w w1:=by
    rcases hw1 with rfl|rfl
    .exact⟨rfl,rfl,rfl,.of⟩
    .exact⟨rfl,rfl,rfl,.of⟩
   obtain⟨hh,ho1,ho2,ho3⟩:=hh1;refine zqG (w':=setBlock w1 r (.mapIter (some g) clock ((seenOf en done).push e.born) clock)) (y:=.tuple #[.bool true,e.key,e.val]) o1 o4 (by simp[execOp,o3,hy,hrun]) ?_;rw[o2];have hsame:∀q,q≠r->(setBlock w1 r (.mapIter (some g) clock ((seenOf en done).push e.born) clock)).heap[q]?=w.heap[q]?:=λq hq=>by rw[zK9 hq,hh]
   have hSr:∀q,S q->q≠r:=λq hq e=>h2.far.2.1 (e▸hq)
   have hsize:(setBlock w1 r (.mapIter (some g) clock ((seenOf en done).push e.born) clock)).heap.size=w.heap.size:=by
    show(w1.heap.setIfInBounds r _).size=_
    simp_all
   have hw:GoodS w0 S0 κ0 K N S κ st a (setBlock w1 r (.mapIter (some g) clock ((seenOf en done).push e.born) clock)):=h1.world ho1 ho2 ho3 (by omega) (λq _ hq=>by
    by_cases hqr:q=r
    .subst hqr;exact absurd ⟨h2.far,h2.mine⟩ hq
    .exact hsame q hqr)
   have hheld:=h2.held.mono (λ_ h=>h) (λq hq=>hsame q (hSr q hq));refine hK j k v (by grind) hjd hkv _ _ ⟨S,κ,hw.put hd _ _ (.c (.tup _ _ rfl (λi c x hi hx=>?_))),hheld,⟨by rw[hsize];exact h2.far.1,h2.far.2⟩,h2.mine,?_,?_,?_⟩
   . match i with
     |0=>simp at hi hx;subst hi;subst hx;exact .v _
     |1=>simp at hi hx;subst hi;subst hx;exact hheld.key j _ v e hkv hj
     |2=>simp at hi hx;subst hi;subst hx;exact hheld.val j k _ e hkv hj
     |i+3=>simp at hi
   .rw[zNw (by rw[hh];exact h2.far.1),zE9 hj]
   .rw[zkx];exact⟨h2.nodup,by simp,λx hx y hy e=>by simp_all⟩
   . intro x hx;rcases zbo.1 hx with h|h
     .exact h2.lt x h
     simp_all
def zAF{P:Program}{ops:aK}{Q:aO}{i d it r g j:Nat}{es:aI}{en:Array MapEntry}{clock:Nat}{done:aF}{k v:AV}{K':Act->World->Prop}(ho:opIs ops i d (.entry (.tmp it)))(hd:d<N)
  (h:NowP w0 S0 κ0 K N (Rng w0 κ0 K r g es en clock (done++[j])) st a w) (hm:get st.t it=.v (.pointer (some ⟨r,0,none⟩))) (hj:es[j]?=some [k,v])
  (hK:∀a' w',NowP w0 S0 κ0 K N (Rng w0 κ0 K r g es en clock (done++[j])) { st with t:=(d,.tup [k,v])::st.t } a' w'->K' a' w'):wpOp P ops Q i K' a w:=by
 obtain⟨S,κ,h1,h2⟩:=h;obtain⟨o,o1,o2,o3,o4⟩:=ho.get;have hv:=h1.slots it;rw[hm]at hv;have hy:a.eval (.tmp it)=.pointer (some ⟨r,0,none⟩):=hv.v_inv;have hjl:j<en.size:=h2.lt j (by simp);have hje:=za3 hjl;have hit:=h2.iter;rw[zE9 hje]at hit
 have hnd:(en.toList.map (·.born)).Nodup:=by rw[List.nodup_iff_pairwise_ne,zcn];intro p q hp hq hpq;simp only[zac,zdm]at hp hq;have:=h2.held.incr p q en[p] en[q] hpq (za3 hp) (za3 hq);simp;omega
 have hrun:=run_entry_at (P:=P) w r g clock (seenOf en done) en clock en[j] hit h2.held.at_ (by simp) hnd;refine zqG (w':=w) (y:=.tuple #[en[j].key,en[j].val]) o1 o4 (by simp[execOp,o3,hy,hrun]) ?_;rw[o2];refine hK _ _ ⟨S,κ,h1.put hd _ _ (.c (.tup _ _ rfl (λi c x hi hx=>?_))),h2⟩
 match i with
 |0=>simp at hi hx;subst hi;subst hx;exact h2.held.key j _ v _ hj hje
 |1=>simp at hi hx;subst hi;subst hx;exact h2.held.val j k _ _ hj hje
 |i+2=>simp at hi
def zHP{P:Program}{ops:aK}{Q:aO}{i d s n:Nat}{vs:aH}{x:AV}{X:Sat2}{K':Act->World->Prop}(ho:opIs ops i d (.extract (.tmp s) n))(hd:d<N)
  (h:NowP w0 S0 κ0 K N X st a w) (hm:get st.t s=.tup vs) (hx:vs[n]?=some x)
  (hK:∀a',NowP w0 S0 κ0 K N X { st with t:=(d,x)::st.t } a' w->K' a' w):wpOp P ops Q i K' a w:=by
 obtain⟨S,κ,h1,h2⟩:=h;obtain⟨o,o1,o2,o3,o4⟩:=ho.get;have hv:=h1.slots s;rw[hm]at hv;obtain⟨arr,he,hsz,hvs⟩:=hv.tup_inv
 have hlt:n<arr.size:=by have:=(zao.1 hx).1;omega
 refine zqG (w':=w) (y:=arr[n]) o1 o4 ?_ ?_
 .have he':a.eval (.tmp s)=.tuple arr:=he;simp[execOp,o3,he',Instr.extract,hlt]
 .rw[o2];exact hK _ ⟨S,κ,h1.put hd _ _ (hvs n x _ hx (za3 hlt)),h2⟩
def NowP.freeze{X:Sat2}(hX:Stable X)(h:NowP w0 S0 κ0 K N X st a w)(hN:N<=1000)(bs:aF)(hb:bs.all (λb=>decide (b<1000)&&(look st.m b).isSome)=true)(e:zff bs st=st'):NowP w0 S0 κ0 K N X st' a w:=by
 obtain⟨S,κ,h1,h2⟩:=h;have hp:GoodF w S κ (λb=>(look st.m b).isSome=true) N (fs st) a w:=⟨S,κ,Good.rebase h1⟩
 obtain⟨S',κ',hg⟩:=zzv hp hN (bs:=bs) (λb hm=>by simp_all)
 subst e;refine⟨S',κ',Good.join h1 hg,hX.step h2 hg.sup (λg hf=>hg.far hf) (λ_ _=>rfl)⟩
def NowP.drop{X:Sat2}(h:NowP w0 S0 κ0 K N X st a w):NowP w0 S0 κ0 K N (λ_ _ _ _=>True) st a w:=by obtain⟨S,κ,h1,_⟩:=h;exact⟨S,κ,h1,trivial⟩
def seenN(w:World)(r:Nat):Nat:=match w.heap[r]? with
 |some (.mapIter _ _ s _)=>s.size
 |_=>0
def Rng.seen{r g:Nat}{es:aI}{en:Array MapEntry}{clock:Nat}{done:aF}{L:aG}(h:Rng w0 κ0 K r g es en clock done S κ L w):seenN w r=done.length:=by unfold seenN;rw[h.iter];simp[seenOf]
def zxP{n:Nat}{l:aF}(hd:l.Nodup)(hl:∀j∈l,j<n):l.length<=n:=by
 induction n generalizing l with
 |zero =>
   cases l with
   |nil=>simp
   |cons j r=>exact absurd (hl j (by simp)) (by omega)
 |succ n ih =>
   have h1:=ih (l:=l.erase n) (hd.erase n) (λj hj=>by grind)
   grind
def zA2{P:Program}{bl id:Nat}{ops:aK}{BODY:Code}{it d1 d2 r g:Nat}{es:aI}{en:Array MapEntry}{clock:Nat}{stf:List Nat->St}(ks:aF)
  (hsz:ops.size=2) (o0:opIs ops 0 d1 (.next (.tmp it) false)) (o1:opIs ops 1 d2 (.extract (.tmp d1) 0)) (hd1:d1<N) (hd2:d2<N)
  (hit:∀done,get (stf done).t it=.v (.pointer (some ⟨r,0,none⟩)))
  (htrim:∀done x y,trim ks [] { stf done with t:=(d2,y)::(d1,x)::(stf done).t }=stf done)
  (hbody:∀done j k v,done.Nodup->(∀i∈done,i<es.length)->j ∉ done->es[j]?=some [k,v]->∀a w,NowP w0 S0 κ0 K N (Rng w0 κ0 K r g es en clock (done++[j])) (stf done) a w->BODY.wp P (λe a' w'=>e=.normal/\NowP w0 S0 κ0 K N (Rng w0 κ0 K r g es en clock (done++[j])) (stf (done++[j])) a' w') a w)
  (h:NowP w0 S0 κ0 K N (Rng w0 κ0 K r g es en clock []) (stf []) a w) {Q:aO}
  (hQ:∀done,done.Nodup->(∀i∈done,i<es.length)->(∀i,i<es.length->i∈done)->∀a' w',NowP w0 S0 κ0 K N (Rng w0 κ0 K r g es en clock done) (stf done) a' w'->Q .normal a' w'):(Code.block bl (.loop (.seq (.region id ops false) (.seq (.cond (.tmp d2) .skip (.exit bl)) BODY)))).wp P Q a w:=by
 refine wp_block (wp_loop (λa w=>∃done,NowP w0 S0 κ0 K N (Rng w0 κ0 K r g es en clock done) (stf done) a w) (λ_ w=>es.length-seenN w r) ⟨[],h⟩ ?_)
 rintro a w ⟨done,hn⟩
 have hprop:done.Nodup/\(∀i∈done,i<es.length)/\seenN w r=done.length:=by obtain⟨S,κ,_,hr⟩:=hn;exact⟨hr.nodup,λi hi=>by rw[<-hr.held.len];exact hr.lt i hi,hr.seen⟩
 obtain⟨p1,p2,p3⟩:=hprop;refine wp_seq (wp_region ?_);rw[hsz];rw[show List.range 2=[0,1]from rfl,wpOps_cons];refine next_op o0 hd1 hn (hit done) (λhall a1 w1 h1=>?_) (λj k v hj hjd hkv a1 w1 h1=>?_)
 .rw[wpOps_cons];refine zHP (x:=.v (.bool false)) (vs:=[.v (.bool false)]) o1 hd2 h1 (by simp[get]) rfl (λa2 h2=>?_);refine wp_seq (wp_cond (h2.bool (b:=false) (by simp[get])) ?_);rw[if_neg (by simp)];refine wp_exit ?_;have:=hQ done p1 p2 hall a2 w1 (h2.trim Rng.stable ks [] (htrim done _ _));simpa[Exit.then,Exit.inBlock]using this
 . rw[wpOps_cons];refine zHP (x:=.v (.bool true)) (vs:=[.v (.bool true),k,v]) o1 hd2 h1 (by simp[get]) rfl (λa2 h2=>?_);refine wp_seq (wp_cond (h2.bool (b:=true) (by simp[get])) ?_);rw[if_pos rfl];refine wp_skip ?_;refine wp_mono (hbody done j k v p1 p2 hjd hkv a2 w1 (h2.trim Rng.stable ks [] (htrim done _ _))) ?_
   rintro e a3 w3 ⟨rfl,h3⟩
   refine⟨⟨_,h3⟩,?_⟩;obtain⟨S,κ,_,hr⟩:=h3;have e3:seenN w3 r=done.length+1:=by rw[hr.seen];simp
   have hle:done.length+1<=es.length:=by have:=zxP hr.nodup (n:=es.length) (λi hi=>by grind);simpa using this
   omega
end
end
section
variable[Dr]
section
variable{w0:World}{S0:aB}{κ0:Kap}{K:aB}{N:Nat}{S S':aB}{κ κd κ2:Kap}{a a':Act}{w w':World}{st:St}{t:Tab}{m mr mr':Mem}{B:Nat}{e0 e0':Ent}
def lentK(κ κd:Kap)(mr:Mem)(B:Nat):Kap:=λb=>if b=B+1000 then κd B else if(look mr b).isSome=true then κd b else κ b
def lentM(e0:Ent)(mr m:Mem)(B:Nat):Mem:=((B+1000,e0)::mr)++m
theorem zH1{b:Nat}(h:(look (lentM e0 mr m B) b).isSome=true):(b=B+1000/\look (lentM e0 mr m B) b=some e0/\lentK κ κd mr B b=κd B)\/(b≠B+1000/\(look mr b).isSome=true/\look (lentM e0 mr m B) b=look mr b/\lentK κ κd mr B b=κd b)\/(b≠B+1000/\¬(look mr b).isSome=true/\(look m b).isSome=true/\look (lentM e0 mr m B) b=look m b/\lentK κ κd mr B b=κ b):=by
 unfold lentM at h ⊢;rw[zt0]at h ⊢;unfold lentK;simp only[look]at h ⊢
 grind
def look_two{b:Nat}(hb:(look ((B,e0)::mr) b).isSome=true):b=B\/(look mr b).isSome=true:=by
 simp only[look]at hb
 grind
def GoodS.lend(h:GoodS w0 S0 κ0 K N S κ ⟨t,m⟩ a w)(hF:FarObj S w κd (look ((B,e0)::mr)))
  (hfar:∀b g c,(look ((B,e0)::mr) b).isSome=true->κd b=some (g,c)->Far S κ (look m) w g) (hmr:∀b,(look mr b).isSome=true->b<1000/\b≠B/\look m b=none) (hm:∀b,(look m b).isSome=true->b<1000)
  (ho:∀b ent,look ((B,e0)::mr) b=some ent->ent.box=true->∀cs∈ent.es,∀x∈cs,only (mr.map (·.1)) x=true) {k0 z g c:Nat} (hk0:a.tmps.getD k0 undef=.pointer (some ⟨g,0,none⟩)) (hκ:κd B=some (g,c)):GoodS w S (lentK κ κd mr B) (λb=>(look (lentM e0 mr m B) b).isSome=true) N S (lentK κ κd mr B) ⟨(k0,.loc (B+1000) z 0 0)::t,lentM e0 mr m B⟩ a w:=by
 have hcase:=@zH1 _ κ κd m mr B e0;have hB0:(look ((B,e0)::mr) B).isSome=true:=by simp[look]
 have hmd:∀b,(look mr b).isSome=true->(look ((B,e0)::mr) b).isSome=true:=λb hb=>by
  simp only[look]
  simp_all
 have hin:∀b,(look mr b).isSome=true->(look (lentM e0 mr m B) b).isSome=true/\lentK κ κd mr B b=κd b:=λb hb=>by
  have hne:b≠B+1000:=by have:=(hmr b hb).1;omega
  unfold lentM lentK;rw[zt0];simp[look,hne,hb]
 have hnr:∀b,(look m b).isSome=true->¬(look mr b).isSome=true:=λb hb hr=>by simp_all
 have hin2:∀b,(look m b).isSome=true->(look (lentM e0 mr m B) b).isSome=true/\lentK κ κd mr B b=κ b:=λb hb=>by
  have hne:b≠B+1000:=by have:=hm b hb;omega
  have:=hnr b hb;unfold lentM lentK;rw[zt0]
  grind
 have desk:∀b ent,look ((B,e0)::mr) b=some ent->EntAt S (lentK κ κd mr B) (λb=>(look (lentM e0 mr m B) b).isSome=true) w (κd b) ent:=λb ent hb=>by
  have hE:=hF.ents b ent hb
  have h1:EntAt S κd (λb=>(look mr b).isSome=true) w (κd b) ent:=zAD hE (λ_ h=>h) (λg c hk=>by rw[hk]at hE;exact hE.notS) (λhbx cs hcs x hx v hv=>zAT (λb hb=>zjW (by simpa[ids]using hb)) (ho b ent hb hbx cs hcs x hx) hv)
  exact h1.mono (λ_ h=>h) (λ_ _=>rfl) (λb hb=>(hin b hb).1) (λb hb=>(hin b hb).2) (λg c hk=>⟨rfl,by rw[hk]at hE;exact hE.notS⟩)
 have hold:∀b,(look (lentM e0 mr m B) b).isSome=true->(∃bd,(look ((B,e0)::mr) bd).isSome=true/\lentK κ κd mr B b=κd bd/\((b=B+1000/\bd=B)\/(b≠B+1000/\bd=b/\(look mr b).isSome=true)))\/((look m b).isSome=true/\lentK κ κd mr B b=κ b):=λb hb=>by grind
 exact{
  defers:=h.defers
  size:=h.size
  os:=rfl
  tape:=rfl
  output:=.of
  grow:=zaW _
  old:=λ_ _ _=>rfl
  sup:=λ_ h=>h
  snew:=λ_ h=>.inl h
  slt:=h.slt
  par:=λ_ _=>rfl
  parK:=λ_ _ h=>h
  own:=λb g c hb hl hk=>.inr ⟨b,c,hb,hl,hk⟩
  inj:=λb b' g c c' hl hl' hk hk'=>by
   rcases hold b hl with⟨bd,d1,d2,d3⟩|⟨d1,d2⟩
   . rw[d2]at hk;rcases hold b' hl' with⟨bd',d1',d2',d3'⟩|⟨d1',d2'⟩
     . rw[d2']at hk';have:=hF.inj bd bd' g c c' d1 d1' hk hk'
       grind
     .rw[d2']at hk';exact absurd hk' ((hfar bd g c d1 hk).2.2 b' c' d1')
   . rw[d2]at hk;rcases hold b' hl' with⟨bd',d1',d2',_⟩|⟨d1',d2'⟩
     .rw[d2']at hk';exact absurd hk ((hfar bd' g c' d1' hk').2.2 b c d1)
     .rw[d2']at hk';exact h.inj b b' g c c' d1 d1' hk hk'
  ents:=λb ent hb=>by
   have hbs:(look (lentM e0 mr m B) b).isSome=true:=by rw[show look (lentM e0 mr m B) b=some ent from hb];rfl
   rcases hcase hbs with⟨q1,q2,q3⟩|⟨q1,q2,q3,q4⟩|⟨q1,q2,q3,q4,q5⟩
   .rw[q3];rw[q2]at hb;injection hb with hb;subst hb;exact desk B e0 (by simp[look])
   .rw[q4];rw[q3]at hb;exact desk b ent (by simp only[look];simp_all)
   .rw[q5];rw[q4]at hb;have hE:=h.ents b ent hb;exact hE.mono (λ_ h=>h) (λ_ _=>rfl) (λb hb=>(hin2 b hb).1) (λb hb=>(hin2 b hb).2) (λg c hk=>⟨rfl,by rw[hk]at hE;exact hE.notS⟩)
  slots:=λk=>by
   simp only[get];split
   .rename_i e;subst e;rw[hk0];have:=VRel.loc (S:=S) (κ:=lentK κ κd mr B) (D:=λb=>(look (lentM e0 mr m B) b).isSome=true) (w:=w) (B+1000) z 0 0 g c (by unfold lentM;rw[zt0];simp[look]) (by unfold lentK;simp[hκ]);simpa using this
   .exact(h.slots k).mono (λ_ h=>h) (λ_ _=>rfl) (λb hb=>(hin2 b hb).1) (λb hb=>(hin2 b hb).2) }
def backK(κ0 κ2:Kap):Kap:=λb=>if b<1000 then κ2 b else κ0 b
def homeK(κd κ2:Kap)(B:Nat):Kap:=λb=>if b=B then κd B else κ2 b
def lent_back{i:Nat}{M:Nat->Option Mem}{κs:Nat->Kap}(h:GoodS w0 S0 κ0 K N S κ ⟨t,m⟩ a w)(ho:Objs w0 κ0 K S κ (look m) w M κs)(hi:M i=some ((B,e0)::mr))(hmr:∀b,(look mr b).isSome=true->b<1000/\b≠B/\look m b=none)
  (hm:∀b,(look m b).isSome=true->b<1000) {st2:St} (h2:GoodS w S (lentK κ (κs i) mr B) (λb=>(look (lentM e0 mr m B) b).isSome=true) N S' κ2 st2 a' w')
  (hd:∀b ent,look ((B+1000,e0')::mr') b=some ent->look st2.m b=some ent) (hmr':∀b,(look mr' b).isSome=true->b<1000/\b≠B)
  (honly:∀b ent,look ((B+1000,e0')::mr') b=some ent->ent.box=true->∀cs∈ent.es,∀x∈cs,only (mr'.map (·.1)) x=true) {stN:St} (ks drop:aF) (e:trim ks drop st2=stN)
  (hN:∀b,(look stN.m b).isSome=true->(look st2.m b).isSome=true/\¬(look ((B+1000,e0')::mr') b).isSome=true/\b<1000):GoodS w0 S0 κ0 K N S' (backK κ0 κ2) stN a' w'/\Objs w0 κ0 K S' (backK κ0 κ2) (look stN.m) w' (λj=>if j=i then some ((B,e0')::mr')else M j) (λj=>if j=i then homeK (κs i) κ2 B else κs j):=by
 have hcase:=@zH1 _ κ (κs i) m mr B e0
 have hmd:∀b,(look mr b).isSome=true->(look ((B,e0)::mr) b).isSome=true:=λb hb=>by
  simp only[look]
  simp_all
 have hmine:∀b g c,(look (lentM e0 mr m B) b).isSome=true->lentK κ (κs i) mr B b=some (g,c)->Mine w0 κ0 K g:=λb g c hb hk=>by
  rcases hcase hb with⟨q1,_,q3⟩|⟨q1,q2,_,q4⟩|⟨q1,_,q3,_,q5⟩
  .rw[q3]at hk;exact(ho.far i _ B g c hi (by simp[look]) hk).2
  .rw[q4]at hk;exact(ho.far i _ b g c hi (hmd b q2) hk).2
  .rw[q5]at hk;exact h.own b g c (hm b q3) q3 hk
 have hM2:∀g,Mine w (lentK κ (κs i) mr B) (λb=>(look (lentM e0 mr m B) b).isSome=true) g->Mine w0 κ0 K g:=λg hg=>by
  rcases hg with hg|⟨b,c,_,hb,hk⟩
  .exact .inl (zbY h.grow hg)
  grind
 have hpar:κ2 (B+1000)=κs i B:=by have:=h2.par (B+1000) (by omega);rw[this];unfold lentK;simp
 have h3:=h2.trim ks drop;rw[e]at h3
 have hother:∀j mj b g c,j≠i->M j=some mj->(look mj b).isSome=true->κs j b=some (g,c)->w'.heap[g]?=w.heap[g]?/\g<w.heap.size/\¬S' g/\¬Mine w (lentK κ (κs i) mr B) (λb=>(look (lentM e0 mr m B) b).isSome=true) g:=λj mj b g c hj hM hb hk=>by
  obtain⟨⟨f1,f2,f3⟩,_⟩:=ho.far j mj b g c hM hb hk
  have hno:∀b' c',(look (lentM e0 mr m B) b').isSome=true->lentK κ (κs i) mr B b'≠some (g,c'):=λb' c' hb' hk'=>by
   rcases hcase hb' with⟨q1,_,q3⟩|⟨q1,q2,_,q4⟩|⟨q1,_,q3,_,q5⟩
   .rw[q3]at hk';exact hj (ho.dis j i mj _ b B g c c' hM hi hb (by simp[look]) hk hk')
   .rw[q4]at hk';exact hj (ho.dis j i mj _ b b' g c c' hM hi hb (hmd b' q2) hk hk')
   simp_all
  have hnm:¬Mine w (lentK κ (κs i) mr B) (λb=>(look (lentM e0 mr m B) b).isSome=true) g:=λhg=>by
   rcases hg with hg|⟨b',c',_,hb',hk'⟩
   .omega
   simp_all
  refine⟨h2.old g f1 hno,f1,λhs=>?_,hnm⟩;rcases h2.snew g hs with q|q
  .exact f2 q
  .exact hnm q
 have hnear:∀b g c,(look stN.m b).isSome=true->backK κ0 κ2 b=some (g,c)->κ2 b=some (g,c)/\Mine w (lentK κ (κs i) mr B) (λb=>(look (lentM e0 mr m B) b).isSome=true) g:=λb g c hb hk=>by obtain⟨q1,_,q3⟩:=hN b hb;unfold backK at hk;rw[if_pos q3]at hk;exact⟨hk,h2.own b g c q3 q1 hk⟩
 have hκ:∀b,(look stN.m b).isSome=true->backK κ0 κ2 b=κ2 b:=λb hb=>by
  unfold backK
  grind
 have hgood:GoodS w0 S0 κ0 K N S' (backK κ0 κ2) stN a' w':={
  defers:=h2.defers
  size:=h2.size
  os:=h2.os.trans h.os
  tape:=h2.tape.trans h.tape
  output:=h.output.trans h2.output
  grow:=zbY h.grow h2.grow
  old:=λg hg hK=>by
   rw[h2.old g (zcz hg h.grow) ?_]
   .exact h.old g hg hK
   . intro b c hb hk;rcases hmine b g c hb hk with q|⟨b',c',_,q2,q3⟩
     .omega
     grind
  sup:=λg hg=>h2.sup g (h.sup g hg)
  snew:=λg hg=>by
   rcases h2.snew g hg with q|q
   .exact h.snew g q
   grind
  slt:=h2.slt
  par:=λb hb=>by unfold backK;rw[if_neg (by omega)]
  parK:=λb hb hl=>by grind
  own:=λb g c _ hl hk=>hM2 g (hnear b g c hl hk).2
  inj:=λb b' g c c' hl hl' hk hk'=>h2.inj b b' g c c' (hN b hl).1 (hN b' hl').1 (hnear b g c hl hk).1 (hnear b' g c' hl' hk').1
  ents:=λb ent hb=>by
   have hbs:(look stN.m b).isSome=true:=by simp[hb]
   rw[hκ b hbs];have hE:=h3.ents b ent hb;exact hE.mono (λ_ h=>h) (λ_ _=>rfl) (λ_ h=>h) hκ (λg c hk=>⟨rfl,by rw[hk]at hE;exact hE.notS⟩)
  slots:=λk=>(h3.slots k).mono (λ_ h=>h) (λ_ _=>rfl) (λ_ h=>h) hκ }
 have hB1:look ((B+1000,e0')::mr') (B+1000)=some e0':=by simp[look]
 have hr1:∀b,(look mr' b).isSome=true->look ((B+1000,e0')::mr') b=look mr' b/\homeK (κs i) κ2 B b=κ2 b:=λb hb=>by
  obtain⟨q1,q2⟩:=hmr' b hb;unfold homeK;simp only[look]
  grind
 have name:∀b ent,look ((B,e0')::mr') b=some ent->∃b2,look ((B+1000,e0')::mr') b2=some ent/\homeK (κs i) κ2 B b=κ2 b2/\((b=B/\b2=B+1000)\/(b2=b/\(look mr' b).isSome=true)):=λb ent hb=>by
  simp only[look]at hb;split at hb
  .rename_i hbB;injection hb with hb;subst hb;refine⟨B+1000,hB1,?_,.inl ⟨hbB,rfl⟩⟩;unfold homeK;rw[if_pos hbB,hpar]
  simp_all
 have sees:∀b2 ent,look ((B+1000,e0')::mr') b2=some ent->(look st2.m b2).isSome=true:=λb2 ent hb=>by simp[hd b2 ent hb]
 have hobj:FarObj S' w' (homeK (κs i) κ2 B) (look ((B,e0')::mr')):=⟨λb ent hb=>by
  obtain⟨b2,n1,n2,n3⟩:=name b ent hb;have hE:=h2.ents b2 ent (hd b2 ent n1);rw[n2]
  have h1:EntAt S' κ2 (λb=>(look mr' b).isSome=true) w' (κ2 b2) ent:=zAD hE (λ_ h=>h) (λg c hk=>by rw[hk]at hE;exact hE.notS) (λhbx cs hcs x hx v hv=>zAT (λb hb=>zjW (by simpa[ids]using hb)) (honly b2 ent n1 hbx cs hcs x hx) hv)
  refine h1.mono (λ_ h=>h) (λ_ _=>rfl) (λb hb=>?_) (λb hb=>(hr1 b hb).2) (λg c hk=>⟨rfl,by rw[hk]at hE;exact hE.notS⟩);simp only[look]
  simp_all,λb b' g c c' hb hb' hk hk'=>by
  obtain⟨ent,he⟩:=zaN.1 hb;obtain⟨ent',he'⟩:=zaN.1 hb';obtain⟨b2,n1,n2,n3⟩:=name b ent he;obtain⟨b2',n1',n2',n3'⟩:=name b' ent' he';rw[n2]at hk;rw[n2']at hk';have:=h2.inj b2 b2' g c c' (sees b2 ent n1) (sees b2' ent' n1') hk hk'
  grind⟩
 refine⟨hgood,⟨λj mj hj=>?_,λj mj b g c hj hb hk=>?_,λj j' mj mj' b b' g c c' hj hj' hb hb' hk hk'=>?_⟩⟩
 . split at hj
   .simp_all
   . rename_i hji;rw[if_neg hji];refine(ho.obj j mj hj).mono (λg hg=>h2.sup g hg) (λg hg=>?_) (λb g c hb hk=>?_)
     . refine h2.old g (h.slt g hg) (λb c hb hk=>?_);rcases hcase hb with⟨q1,_,q3⟩|⟨q1,q2,_,q4⟩|⟨q1,_,q3,_,q5⟩
       .rw[q3]at hk;exact(ho.far i _ B g c hi (by simp[look]) hk).1.2.1 hg
       .rw[q4]at hk;exact(ho.far i _ b g c hi (hmd b q2) hk).1.2.1 hg
       .rw[q5]at hk;obtain⟨ent,he⟩:=zaN.1 q3;have hE:=h.ents b ent he;rw[hk]at hE;exact hE.notS hg
     grind
 . split at hj
   . rename_i hji;injection hj with hj;subst hj;rw[if_pos hji]at hk;obtain⟨ent,he⟩:=zaN.1 hb;obtain⟨b2,n1,n2,n3⟩:=name b ent he;rw[n2]at hk;have hE:=h2.ents b2 ent (hd b2 ent n1);rw[hk]at hE;refine⟨⟨hE.lt,hE.notS,λb' c' hl' hk'=>?_⟩,?_⟩
     . obtain⟨q1,q2,q3⟩:=hN b' hl';have:=h2.inj b' b2 g c' c q1 (sees b2 ent n1) (hnear b' g c' hl' hk').1 hk
       simp_all
     . rcases n3 with⟨p1,p2⟩|⟨p1,p2⟩
       .subst p2;rw[hpar]at hk;exact(ho.far i _ B g c hi (by simp[look]) hk).2
       .subst p1;exact hM2 g (h2.own b2 g c (hmr' b2 p2).1 (sees b2 ent n1) hk)
   .rename_i hji;rw[if_neg hji]at hk;obtain⟨_,q2,q3,q4⟩:=hother j mj b g c hji hj hb hk;refine⟨⟨zcz q2 h2.grow,q3,λb' c' hl' hk'=>q4 (hnear b' g c' hl' hk').2⟩,(ho.far j mj b g c hj hb hk).2⟩
 ·
  have cross:∀b b' g c c' mj' j',j'≠i->M j'=some mj'->(look ((B,e0')::mr') b).isSome=true->(look mj' b').isSome=true->homeK (κs i) κ2 B b=some (g,c)->κs j' b'=some (g,c')->False:=λb b' g c c' mj' j' hji hM hb hb' hk hk'=>by
   obtain⟨ent,he⟩:=zaN.1 hb;obtain⟨b2,n1,n2,n3⟩:=name b ent he;rw[n2]at hk;rcases n3 with⟨p1,p2⟩|⟨p1,p2⟩
   .subst p2;rw[hpar]at hk;exact hji (ho.dis j' i mj' _ b' B g c' c hM hi hb' (by simp[look]) hk' hk)
   .subst p1;exact(hother j' mj' b' g c' hji hM hb' hk').2.2.2 (h2.own b2 g c (hmr' b2 p2).1 (sees b2 ent n1) hk)
  split at hj
  .grind
  . rename_i hji;rw[if_neg hji]at hk;split at hj'
    .grind
    .rename_i hji';rw[if_neg hji']at hk';exact ho.dis j j' mj mj' b b' g c c' hj hj' hb hb' hk hk'
end
end
variable[Dr]
section
variable{w0:World}{S0:aB}{κ0:Kap}{K:aB}{N:Nat}{S:aB}{κ:Kap}{a:Act}{w:World}{st:St}
def zI9{P:Program}{t e:TypeId}{A:Option Addr}{l c:Nat}(hu:P.underlying t=some (.slice e)):(Op.equal t (.slice A l c) (.slice none 0 0)).run P w=.ok A.isNone w:=by
 have:∀d,(Op.equalIn (d+1) t (.slice A l c) (.slice none 0 0)).run P w=.ok A.isNone w:=by intro d;cases A<;>simp only[Op.equalIn,Sem.run_bind,run_underlying hu,Result.andThen_ok,Sem.run_pure]<;>rfl
 exact this 9999
def nil_op{P:Program}{ops:aK}{Q:aO}{i d s:Nat}{t u e:TypeId}{z:Nat}{es:aI}{X:Sat2}{K':Act->World->Prop}(ho:opIs ops i d (.binOp .eql t (.tmp s) (.const (.slice none 0 0)) u))(hu:P.underlying t=some (.slice e))(hd:d<N)
  (h:NowP w0 S0 κ0 K N X st a w) (hm:get st.t s=.sl z es)
  (hK:∀b:Bool,(b=true->es=[])->NowP w0 S0 κ0 K N X { st with t:=(d,.v (.bool b))::st.t } (a.put (some d) (.bool b)) w->K' (a.put (some d) (.bool b)) w):wpOp P ops Q i K' a w:=by
 obtain⟨S,κ,h1,h2⟩:=h;obtain⟨o,o1,o2,o3,o4⟩:=ho.get;have hv:=h1.slots s;rw[hm]at hv
 obtain⟨A,l,c,hy,hlen⟩:∃A l c,a.tmps.getD s undef=.slice A l c/\(A.isNone=true->es=[]):=by
  generalize a.tmps.getD s undef=y at hv
  cases hv with
  |c h =>
    cases h with
    |sl _ _ A len cap u hlen hcap hz ha hr=>grind
 have heq:=zI9 (w:=w) (P:=P) (A:=A) (l:=l) (c:=c) hu;have hy':a.eval (.tmp s)=.slice A l c:=hy;refine zqG (w':=w) (y:=.bool A.isNone) o1 o4 (by simp[execOp,o3,hy',show a.eval (.const (.slice none 0 0))=.slice none 0 0 from rfl,eqGuard,binOp,heq]) ?_;rw[o2];exact hK _ hlen ⟨S,κ,h1.put hd _ _ (.c (.v _)),h2⟩
end
end Go.Ab
end
