/- Operations with their conditions. -/
import Derived.Test.YtlecnobdfhlmnaaGreatAb6
set_option linter.unusedSimpArgs false
set_option linter.unusedVariables false
set_option linter.unusedSectionVars false
noncomputable section
namespace Go.Ab
open Go.RowKit
def Holds:List Prop->Prop
 |[]=>True
 |p::r=>p/\Holds r
theorem zeo{a b:List Prop}:Holds (a++b)↔Holds a/\Holds b:=by
 induction a with
 |nil=>simp[Holds]
 |cons p r ih=>simp[Holds,ih,and_assoc]
def psnap(L:Nat->Option Ent):Nat->AV->Option (AV×List Prop)
 |0,_=>none
 |k+1,a=>match a with
   |.row b z off n=>match L b with
     |some ent=>if ent.z=z/\ent.box=false/\0<z then some (.sl z ((ent.es.drop off).take n),[off+n<=ent.es.length])else none
     |none=>none
   |.agg cs=>match mapO (psnap L k) cs with
     |some l=>some (.agg (l.map (·.1)),l.flatMap (·.2))
     |none=>none
   |.fn f cs=>match mapO (psnap L k) cs with
     |some l=>some (.fn f (l.map (·.1)),l.flatMap (·.2))
     |none=>none
   |.tup cs=>match mapO (psnap L k) cs with
     |some l=>some (.tup (l.map (·.1)),l.flatMap (·.2))
     |none=>none
   |.loc b z i o=>match L b with
     |some ent=>if ent.z=z/\(ent.box=true\/0<ent.z)then(match ent.box with
       |true=>(match ent.es[i]? with
         |some cs=>(match mapO (psnap L k) (cs.drop o)with
           |some l=>some (.fp (l.map (·.1)),l.flatMap (·.2))
           |none=>none)
         |none=>none)
       |false=>if i=0/\o=0 then some (.fa z ent.es,[i<ent.es.length])else some (.fp (zyq ent.es i o),[i<ent.es.length]))else none
     |none=>none
   |a=>match snap L (k+1) a with
     |some a'=>some (a',[])
     |none=>none
theorem zFh{l:List (AV×List Prop)}(h:Holds (l.flatMap (·.2))):∀q∈l,Holds q.2:=by
 induction l with
 |nil=>intro q hq;cases hq
 |cons p r ih =>
   simp only[zhn,zeo]at h
   grind
theorem mapO_of{α β γ:Type}{f:α->Option β}{g:α->Option γ}{t:γ->β}:∀{l:List α} {r:List γ},mapO g l=some r->(∀a c,a∈l->c∈r->g a=some c->f a=some (t c))->mapO f l=some (r.map t)
 |[],r,h,_=>by simp[mapO]at h;subst h;rfl
 |a::l,r,h,hf=>by
   simp only[mapO]at h
   cases hg:g a with
   |none=>simp[hg]at h
   |some c =>
     simp only[hg]at h
     cases hm:mapO g l with
     |none=>simp[hm]at h
     |some l'=>simp only[hm,zaf]at h;subst h;simp only[mapO,hf a c (by simp) (by simp) hg,zbJ];rw[mapO_of hm (λa' c' ha hc=>hf a' c' (by simp[ha]) (by simp[hc]))]
theorem zj2{L:Nat->Option Ent}:∀(k:Nat) (a a':AV) (cs:List Prop),psnap L k a=some (a',cs)->Holds cs->snap L k a=some a':=by
 intro k
 induction k with
 |zero=>intro a a' cs h;simp[psnap]at h
 |succ k ih =>
   intro a a' ps h hh
   have lists:∀(cs:List AV) (l:List (AV×List Prop)),mapO (psnap L k) cs=some l->Holds (l.flatMap (·.2))->mapO (snap L k) cs=some (l.map (·.1)):=by intro cs l hm hl;exact mapO_of hm (λa c _ hc hg=>ih a c.1 c.2 hg (zFh hl c hc))
   cases a with
   |row b z off n =>
     simp only[psnap]at h;simp only[snap]
     cases hl:L b with
     |none=>simp[hl]at h
     |some ent =>
       simp only[hl]at h ⊢;split at h
       case isFalse=>cases h
       rename_i hc;simp only[zaf,zav]at h;obtain⟨rfl,rfl⟩:=h;rw[if_pos ⟨hc.1,hc.2.1,hc.2.2,hh.1⟩]
   |agg cs =>
     simp only[psnap]at h;simp only[snap]
     grind
   |fn f cs =>
     simp only[psnap]at h;simp only[snap]
     grind
   |tup cs =>
     simp only[psnap]at h;simp only[snap]
     grind
   |loc b z i o =>
     simp only[psnap]at h;simp only[snap]
     cases hl:L b with
     |none=>simp[hl]at h
     |some ent =>
       simp only[hl]at h ⊢;split at h
       case isFalse=>cases h
       rename_i hc;rw[if_pos hc]
       cases hbx:ent.box with
       |true=>grind
       |false =>
         simp only[hbx]at h;split at h
         ·rename_i hio;simp only[zaf,zav]at h;obtain⟨rfl,rfl⟩:=h;rw[zaa hh.1];simp[hio]
         ·rename_i hio;simp only[zaf,zav]at h;obtain⟨rfl,rfl⟩:=h;rw[zaa hh.1];simp[hio]
   |_ =>
     simp only[psnap]at h;split at h
     ·rename_i a1 ha;simp only[zaf,zav]at h;obtain⟨rfl,rfl⟩:=h;exact ha
     ·cases h
def zqK(L:Nat->Option Ent)(wrt:List Nat):Nat->List AV->Option ((List AV×Mem×List (Nat×Nat)×List Nat)×List Prop)
 |_,[]=>some (([],[],[],[]),[])
 |k,a::r=>match zqK L wrt (k+1) r with
   |none=>none
   |some ((as,ms,bk,fz),ps) =>
     if(wrt.contains k&&!a.data)=true then(match a with
      |.loc b z 0 0=>match L b with
        |some ent=>if ent.z=z/\ent.box=true/\allL (λcs=>allL (AV.isC 4) cs) ent.es=true/\bk.all (λp=>p.1≠b)=true then
          some ((.loc (1000+k) z 0 0::as,(1000+k,ent)::ms,(b,1000+k)::bk,fz),ps)else none
        |none=>none
      |.row b z off n=>match L b with
        |some ent=>if ent.z=z/\ent.box=false/\0<z/\bk.all (λp=>p.1≠b)=true then
          some ((.row (1000+k) z off n::as,(1000+k,ent)::ms,(b,1000+k)::bk,fz),ps)else none
        |none=>none
      |.map b=>match L b with
        |some ent=>if ent.z=0/\ent.box=false/\bk.all (λp=>p.1≠b)=true then
          some ((.map (1000+k)::as,(1000+k,ent)::ms,(b,1000+k)::bk,fz),ps)else none
        |none=>none
      |_=>none)
     else if wrt.contains (100+k)then(match a with
      |.row b z 0 n=>match L b with
        |some ent=>if ent.z=z/\ent.box=false/\0<z/\b<1000/\k<50/\bk.all (λp=>p.1≠b)=true then
          some ((.row (950+k) z 0 n::as,(950+k,ent)::ms,(b,950+k)::bk,fz),(n=ent.es.length)::ps)else none
        |none=>none
      |_=>none)
     else match psnap L 5 a with
      |some (a',qs)=>some ((a'::as,ms,bk,a.ids L 5++fz),qs++ps)
      |none=>none
theorem zn1{L:Nat->Option Ent}{wrt:List Nat}:∀(args:List AV) (k:Nat) (q:List AV×Mem×List (Nat×Nat)×List Nat) (ps:List Prop),zqK L wrt k args=some (q,ps)->Holds ps->zeX L wrt k args=some q
 |[],k,q,ps,h,_=>by simp[zqK]at h;rw[<-h.1];rfl
 |a::r,k,q,ps,h,hh=>by
   simp only[zqK]at h
   cases hr:zqK L wrt (k+1) r with
   |none=>simp[hr]at h
   |some q0 =>
     obtain⟨⟨as,ms,bk,fz⟩,ps0⟩:=q0;simp only[hr]at h;simp only[zeX];by_cases hw:(wrt.contains k&&!a.data)=true
     · simp only[hw,if_true]at h ⊢
       have hps:Holds ps0:=by
        split at h
        ·grind
        ·grind
        ·grind
        ·cases h
       rw[zn1 r (k+1) _ _ hr hps]
       grind
     · simp only[hw,if_false,zbt]at h ⊢;by_cases hg:wrt.contains (100+k)=true
       · simp only[hg,if_true]at h ⊢;split at h
         case h_2=>cases h
         split at h
         case h_2=>cases h
         rename_i ent hl;split at h
         case isFalse=>cases h
         rename_i hc;simp only[zaf,zav]at h;obtain⟨h1,rfl⟩:=h;rw[zn1 r (k+1) _ _ hr hh.2];simp only[hl];rw[if_pos ⟨hc.1,hc.2.1,hc.2.2.1,hh.1,hc.2.2.2.1,hc.2.2.2.2.1,hc.2.2.2.2.2⟩,<-h1]
       simp only[hg,if_false,zbt]at h ⊢
       cases hs:psnap L 5 a with
       |none=>simp[hs]at h
       |some q1=>obtain⟨a',qs⟩:=q1;simp only[hs,zaf,zav]at h;obtain⟨rfl,rfl⟩:=h;rw[zeo]at hh;rw[zn1 r (k+1) _ _ hr hh.2,zj2 5 a a' qs hs hh.1]
def pnest(L:Nat->Option Ent):Nat->List AV->Option ((List AV×Mem×List (Nat×Nat))×List Prop)
 |_,[]=>some (([],[],[]),[])
 |q,a::r=>if a.isC 4=true then(match pnest L q r with
   |some ((cs,ms,bk),ps)=>some ((a::cs,ms,bk),ps)
   |none=>none)
   else match a with
    |.row c z 0 n=>match L c,pnest L (q+1) r with
      |some ent,some ((cs,ms,bk),ps)=>if ent.z=z/\ent.box=false/\0<z/\c<1000/\q<950/\bk.all (λp=>p.1≠c)=true then
        some ((.row q z 0 n::cs,(q,ent)::ms,(c,q)::bk),(n=ent.es.length)::ps)else none
      |_,_=>none
    |.map c=>match L c,pnest L (q+1) r with
      |some ent,some ((cs,ms,bk),ps)=>if ent.z=0/\ent.box=false/\c<1000/\q<950/\bk.all (λp=>p.1≠c)=true then
        some ((.map q::cs,(q,ent)::ms,(c,q)::bk),ps)else none
      |_,_=>none
    |_=>none
theorem zsH{L:Nat->Option Ent}:∀(cs:List AV) (q:Nat) (x:List AV×Mem×List (Nat×Nat)) (ps:List Prop),pnest L q cs=some (x,ps)->Holds ps->nest L q cs=some x
 |[],q,x,ps,h,_=>by simp[pnest]at h;rw[<-h.1];rfl
 |a::r,q,x,ps,h,hh=>by
   simp only[pnest]at h;simp only[nest];split at h
   · rename_i hC;rw[if_pos hC];split at h
     case h_2=>cases h
     rename_i cs ms bk ps0 hr;simp only[zaf,zav]at h;obtain⟨rfl,rfl⟩:=h;rw[zsH r q _ _ hr hh]
   · rename_i hC;rw[if_neg hC];split at h
     · split at h
       case h_2=>cases h
       rename_i ent cs ms bk ps0 hl hr;split at h
       case isFalse=>cases h
       rename_i hc;simp only[zaf,zav]at h;obtain⟨rfl,rfl⟩:=h;simp only[hl];rw[zsH r (q+1) _ _ hr hh.2];simp only;rw[if_pos ⟨hc.1,hc.2.1,hc.2.2.1,hh.1,hc.2.2.2⟩]
     · split at h
       case h_2=>cases h
       rename_i ent cs ms bk ps0 hl hr;split at h
       case isFalse=>cases h
       rename_i hc;simp only[zaf,zav]at h;obtain⟨rfl,rfl⟩:=h;simp only[hl];rw[zsH r (q+1) _ _ hr hh]
       grind
     ·cases h
def pdArgs(L:Nat->Option Ent)(k0:Nat)(x:AV):Nat->List AV->Option ((List AV×List Nat)×List Prop)
 |_,[]=>some (([],[]),[])
 |k,a::r=>match pdArgs L k0 x (k+1) r with
   |none=>none
   |some ((as,fz),ps)=>if k=k0 then some ((x::as,fz),ps)else match psnap L 5 a with
     |some (a',qs)=>some ((a'::as,a.ids L 5++fz),qs++ps)
     |none=>none
theorem zvb{L:Nat->Option Ent}{k0:Nat}{x0:AV}:∀(args:List AV) (k:Nat) (x:List AV×List Nat) (ps:List Prop),pdArgs L k0 x0 k args=some (x,ps)->Holds ps->dArgs L k0 x0 k args=some x
 |[],k,x,ps,h,_=>by simp[pdArgs]at h;rw[<-h.1];rfl
 |a::r,k,x,ps,h,hh=>by
   simp only[pdArgs]at h;simp only[dArgs];split at h
   ·cases h
   · rename_i as fz ps0 hr;split at h
     · rename_i hk;simp only[zaf,zav]at h;obtain⟨rfl,rfl⟩:=h;rw[zvb r (k+1) _ _ hr hh]
       simp_all
     · rename_i hk;split at h
       case h_2=>cases h
       rename_i a' qs hs;simp only[zaf,zav]at h;obtain⟨rfl,rfl⟩:=h;rw[zeo]at hh;rw[zvb r (k+1) _ _ hr hh.2];simp only;rw[if_neg hk,zj2 5 a a' qs hs hh.1]
def pInt(op:BinOp)(k k':IntKind)(a b:Int):Option (AV×List Prop):=
 match op with
 |.shl=>some (.v (.int k (k.wrap (a*2 ^ (min b.toNat k.bits)))),[0<=b])
 |.shr=>some (.v (.int k (a.fdiv (2 ^ (min b.toNat k.bits)))),[0<=b])
 |op=>if k=k' then(match op with
   |.add=>some (.v (.int k (k.wrap (a+b))),[])
   |.sub=>some (.v (.int k (k.wrap (a-b))),[])
   |.mul=>some (.v (.int k (k.wrap (a*b))),[])
   |.quo=>some (.v (.int k (k.wrap (a.tdiv b))),[b≠0])
   |.rem=>some (.v (.int k (a.tmod b)),[b≠0])
   |.eql=>some (.v (.bool (a==b)),[])
   |.neq=>some (.v (.bool (a !=b)),[])
   |.lss=>some (.v (.bool (decide (a<b))),[])
   |.leq=>some (.v (.bool (decide (a<=b))),[])
   |.gtr=>some (.v (.bool (decide (b<a))),[])
   |.geq=>some (.v (.bool (decide (b<=a))),[])
   |_=>none)else none
theorem pInt_sound{P:Program}{o:Oper}{op:BinOp}{t u:TypeId}{x y:Operand}{E:Operand->AV}{k k':IntKind}{a b:Int}(ho:o.op=.binOp op t x y u)(hx:E x=.v (.int k a))(hy:E y=.v (.int k' b)){v:AV}{ps:List Prop}
  (h:pInt op k k' a b=some (v,ps)) (hh:Holds ps):aPure P o E=some { val:=v }:=by
 have hops:o.op.operands=#[x,y]:=by rw[ho];rfl
 unfold aPure;rw[hops];have hall:([x,y].all λx=>(E x).toVal.isSome)=true:=by simp[hx,hy,AV.toVal]
 rw[show(#[x,y]:Array Operand).toList=[x,y]from rfl,if_pos hall]
 have hex:execOp (λx=>((E x).toVal).getD undef) o=(do let q <-(do eqGuard op t x y (.int k a) (.int k' b);binOp op t (.int k a) (.int k' b));pure (.value q)):=by simp only[execOp,ho,hx,hy,AV.toVal,zbN]
 rw[hex]
 have hg:∀(s:Sem Value),zdL P (do eqGuard op t x y (.int k a) (.int k' b);s)=zdL P s:=by intro s;cases op<;>simp[eqGuard,Bind.bind,Sem.bind,Pure.pure]
 have hrun:∀(s:Sem Value) (q:Value),zdL P s=some q->zdL P (do let q <-s;pure (Next.value q))=some (Next.value q):=by
  intro s
  induction s with
  |pure a=>intro q hq;simp[zdL]at hq;subst hq;rfl
  |program f ih=>intro q hq;simp only[zdL]at hq;exact ih P q hq
  |mark m f ih=>intro q hq;simp only[zdL]at hq;exact ih q hq
  |_=>intro q hq;simp[zdL]at hq
 have fin:∀q:Value,q.oneCell'=true->(∀vs,q≠.tuple vs)->zdL P (binOp op t (.int k a) (.int k' b))=some q->v=.v q->(match zdL P (do let q <-(do eqGuard op t x y (.int k a) (.int k' b);binOp op t (.int k a) (.int k' b));pure (Next.value q))with
    |some (.value x)=>match ofVal x with
      |some a=>some { val:=a }
      |none=>none
    |_=>none)=some ({ val:=v }:Res):=by
  intro q h1 hn h2 h3;rw[hrun _ q (by rw[hg];exact h2)]
  have:ofVal q=some (.v q):=by
   unfold ofVal;split
   ·grind
   ·rw[if_pos h1]
  simp only[this,h3]
 unfold pInt at h;cases op<;>simp only at h
 case shl =>
  simp only[zaf,zav]at h;obtain⟨rfl,rfl⟩:=h;refine fin (.int k (k.wrap (a*2 ^ (min b.toNat k.bits)))) rfl (by simp) ?_ rfl;have:¬b<0:=by have:=hh.1;omega
  simp[binOp,Op.shift,this,zdL,Pure.pure]
 case shr =>
  simp only[zaf,zav]at h;obtain⟨rfl,rfl⟩:=h;refine fin (.int k (a.fdiv (2 ^ (min b.toNat k.bits)))) rfl (by simp) ?_ rfl;have:¬b<0:=by have:=hh.1;omega
  simp[binOp,Op.shift,this,zdL,Pure.pure]
 all_goals
  split at h
  case isFalse=>cases h
  rename_i hk;subst hk
 case add|sub|mul=>simp only[zaf,zav]at h;obtain⟨rfl,rfl⟩:=h;refine fin _ rfl (by simp) ?_ rfl;simp[binOp,Op.intArith,zdL,Pure.pure]
 case quo|rem=>simp only[zaf,zav]at h;obtain⟨rfl,rfl⟩:=h;refine fin _ rfl (by simp) ?_ rfl;have:=hh.1;simp[binOp,Op.intDiv,this,zdL,Pure.pure]
 case eql|neq|lss|leq|gtr|geq=>simp only[zaf,zav]at h;obtain⟨rfl,rfl⟩:=h;refine fin _ rfl (by simp) ?_ rfl;simp[binOp,Op.intCmp,zdL,Pure.pure]
 all_goals cases h
def noCall:zcv:=λ_ _ _=>none
theorem noCall_le(c:zcv):LeC noCall c:=λ_ _ _ _ h=>by cases h
def psrc(L:Nat->Option Ent)(z:Nat):AV->Option (List (List AV)×List Prop)
 |.row b z' off n=>match L b with
   |some ent=>if ent.z=z/\z'=z/\ent.box=false/\0<z then some ((ent.es.drop off).take n,[off+n<=ent.es.length])else none
   |none=>none
 |a=>match srcOf L z a with
   |some l=>some (l,[])
   |none=>none
theorem zyH{L:Nat->Option Ent}{z:Nat}{a:AV}{l:List (List AV)}{ps:List Prop}(h:psrc L z a=some (l,ps))(hh:Holds ps):srcOf L z a=some l:=by
 unfold psrc at h;split at h
 · rename_i b z' off n;simp only[srcOf]
   cases hl:L b with
   |none=>simp[hl]at h
   |some ent =>
     simp only[hl]at h ⊢;split at h
     case isFalse=>cases h
     rename_i hc;simp only[zaf,zav]at h;obtain⟨rfl,rfl⟩:=h;rw[if_pos ⟨hc.1,hc.2.1,hc.2.2.1,hc.2.2.2,hh.1⟩]
 grind
def pNat(d:Nat):Option AV->Option (Nat×List Prop)
 |none=>some (d,[])
 |some (.v (.int _ n))=>some (n.toNat,[0<=n])
 |_=>none
theorem zue{d n:Nat}{a:Option AV}{ps:List Prop}(h:pNat d a=some (n,ps))(hh:Holds ps):natOf d a=some n:=by
 unfold pNat at h;split at h
 ·simp only[zaf,zav]at h;obtain⟨rfl,rfl⟩:=h;rfl
 ·simp only[zaf,zav]at h;obtain⟨rfl,rfl⟩:=h;simp only[natOf];rw[if_pos hh.1]
 ·cases h
def pSlice(P:Program)(t:TypeId)(x:AV)(lo hi:Option AV):Option (Res×List Prop):=
 match P.underlying t with
 |some (.slice e)=>match szB P e,x with
   |some sz,.sl z es=>match pNat 0 lo,pNat es.length hi with
     |some (l,ps),some (h,qs)=>if z=sz then some ({ val:=.sl z ((es.take h).drop l) },ps++(qs++[l<=h,h<=es.length]))else none
     |_,_=>none
   |some sz,.row b z off n=>match pNat 0 lo,pNat n hi with
     |some (l,ps),some (h,qs)=>if z=sz then some ({ val:=.row b z (off+l) (h-l) },ps++(qs++[l<=h,h<=n]))else none
     |_,_=>none
   |_,_=>none
 |_=>none
theorem zJl{P:Program}{t:TypeId}{x:AV}{lo hi:Option AV}{r:Res}{ps:List Prop}(h:pSlice P t x lo hi=some (r,ps))(hh:Holds ps):aSlice P t x lo hi=some r:=by
 unfold pSlice at h;unfold aSlice
 cases hu:P.underlying t with
 |none=>simp[hu]at h
 |some td =>
   cases td with
   |slice e =>
     simp only[hu]at h ⊢;split at h
     · rename_i sz z es hs;simp only[hs];split at h
       case h_2=>cases h
       rename_i l p1 hh' q1 h1 h2;split at h
       case isFalse=>cases h
       rename_i hz;simp only[zaf,zav]at h;obtain⟨rfl,rfl⟩:=h;rw[zeo,zeo]at hh;rw[zue h1 hh.1,zue h2 hh.2.1];simp only;rw[if_pos ⟨hz,hh.2.2.1,hh.2.2.2.1⟩]
     · rename_i sz b z off n hs;simp only[hs];split at h
       case h_2=>cases h
       rename_i l p1 hh' q1 h1 h2;split at h
       case isFalse=>cases h
       rename_i hz;simp only[zaf,zav]at h;obtain⟨rfl,rfl⟩:=h;rw[zeo,zeo]at hh;rw[zue h1 hh.1,zue h2 hh.2.1];simp only;rw[if_pos ⟨hz,hh.2.2.1,hh.2.2.2.1⟩]
     ·cases h
   |_=>simp[hu]at h
def pMake(P:Program)(d:Nat)(t:TypeId)(l c:AV):Option (Res×List Prop):=
 match l,c with
 |.v (.int _ n),.v (.int _ n')=>match P.underlying t with
   |some (.slice e)=>match szB P e,zeroB P e,P.info? e with
     |some sz,some zero,some i=>if 0<sz/\zero.length=sz/\allL AV.one zero=true then
       some ({ val:=.row d sz 0 (List.replicate n.toNat (nrmL P (zj5 P 8 e) zero)).length,set:=[(d,{ z:=sz,e:=e,es:=List.replicate n.toNat (nrmL P (zj5 P 8 e) zero),box:=false })] },[n=n',0<=n,n.toNat*(i.bytes+1)<=1099511627776])else none
     |_,_,_=>none
   |_=>none
 |_,_=>none
theorem zKh{P:Program}{d:Nat}{t:TypeId}{l c:AV}{r:Res}{ps:List Prop}(h:pMake P d t l c=some (r,ps))(hh:Holds ps):aMake P d t l c=some r:=by
 unfold pMake at h;split at h
 case h_2=>cases h
 rename_i k n k' n';split at h
 case h_2=>cases h
 rename_i e hu;split at h
 case h_2=>cases h
 rename_i sz zero i hs hz hi;split at h
 case isFalse=>cases h
 rename_i hc;simp only[zaf,zav]at h;obtain⟨rfl,rfl⟩:=h;simp only[aMake,hu,hs,hz,hi];rw[if_pos ⟨hh.1,hh.2.1,hc.1,hc.2.1,hc.2.2,hh.2.2.1⟩]
def pAppend(P:Program)(L:Nat->Option Ent)(d:Nat)(t:TypeId)(s x:AV):Option (Res×List Prop):=
 match P.underlying t with
 |some (.slice e)=>match P.info? e,zeroB P e with
   |some i,some zero=>if 0<i.size/\zero.length=i.size then(match psrc L i.size x with
     |some (new,ps)=>(match s with
       |.v (.slice none 0 0)=>some ({ val:=.row d i.size 0 new.length,set:=[(d,{ z:=i.size,e:=e,es:=new,box:=false })] },ps++[new.length*(i.bytes+1)<=1099511627776])
       |.row b z off n=>match L b with
         |some ent=>if b<1000/\b≠d/\ent.z=i.size/\z=i.size/\ent.e=e/\ent.box=false/\off=0 then
           some ({ val:=.row d i.size 0 (ent.es++new).length,set:=[(d,{ z:=i.size,e:=e,es:=ent.es++new,box:=false })],kill:=some b },ps++[n=ent.es.length,(ent.es.length+new.length)*(i.bytes+1)<=1099511627776])else none
         |none=>none
       |_=>none)
     |none=>none)else none
   |_,_=>none
 |_=>none
theorem zH3{P:Program}{L:Nat->Option Ent}{d:Nat}{t:TypeId}{s x:AV}{r:Res}{ps:List Prop}(h:pAppend P L d t s x=some (r,ps))(hh:Holds ps):znp P L d t s x=some r:=by
 unfold pAppend at h;unfold znp
 cases hu:P.underlying t with
 |none=>simp[hu]at h
 |some td =>
   cases td with
   |slice e =>
     simp only[hu]at h ⊢
     cases hi:P.info? e with
     |none=>simp[hi]at h
     |some i =>
       cases hz:zeroB P e with
       |none=>simp[hi,hz]at h
       |some zero =>
         simp only[hi,hz]at h ⊢;split at h
         case isFalse=>cases h
         rename_i hc;rw[if_pos hc]
         cases hs:psrc L i.size x with
         |none=>simp[hs]at h
         |some q =>
           obtain⟨new,qs⟩:=q;simp only[hs]at h;split at h
           ·simp only[zaf,zav]at h;obtain⟨rfl,rfl⟩:=h;rw[zeo]at hh;rw[zyH hs hh.1];simp only;rw[if_pos hh.2.1]
           · rename_i b z off n
             cases hl:L b with
             |none=>simp[hl]at h
             |some ent =>
               simp only[hl]at h ⊢;split at h
               case isFalse=>cases h
               rename_i hc2;simp only[zaf,zav]at h;obtain⟨rfl,rfl⟩:=h;rw[zeo]at hh;rw[zyH hs hh.1];simp only;rw[if_pos ⟨hc2.1,hc2.2.1,hc2.2.2.1,hc2.2.2.2.1,hc2.2.2.2.2.1,hc2.2.2.2.2.2.1,hc2.2.2.2.2.2.2,hh.2.1,hh.2.2.1⟩]
           ·cases h
   |_=>simp[hu]at h
def pCopy(P:Program)(L:Nat->Option Ent)(t:TypeId)(s x:AV):Option (Res×List Prop):=
 match P.underlying t with
 |some (.slice e)=>match szB P e,s with
   |some sz,.row b z off n=>match L b,psrc L sz x with
     |some ent,some (new,ps)=>if 0<sz/\z=sz/\ent.z=sz/\ent.box=false then
       some ({ val:=.v (.int .i64 (min new.length n:Nat)),set:=[(b,{ ent with es:=ent.es.take off++(new.take n)++ent.es.drop (off+min new.length n) })] },ps++[off+n<=ent.es.length])else none
     |_,_=>none
   |_,_=>none
 |_=>none
theorem zKg{P:Program}{L:Nat->Option Ent}{t:TypeId}{s x:AV}{r:Res}{ps:List Prop}(h:pCopy P L t s x=some (r,ps))(hh:Holds ps):aCopy P L t s x=some r:=by
 unfold pCopy at h;unfold aCopy
 cases hu:P.underlying t with
 |none=>simp[hu]at h
 |some td =>
   cases td with
   |slice e =>
     simp only[hu]at h ⊢;split at h
     case h_2=>cases h
     rename_i sz b z off n hs;simp only[hs];split at h
     case h_2=>cases h
     rename_i ent new qs hl hsrc;split at h
     case isFalse=>cases h
     rename_i hc;simp only[zaf,zav]at h;obtain⟨rfl,rfl⟩:=h;rw[zeo]at hh;rw[hl,zyH hsrc hh.1];simp only;rw[if_pos ⟨hc.1,hc.2.1,hc.2.2.1,hc.2.2.2,hh.2.1⟩]
   |_=>simp[hu]at h
def pClear(P:Program)(L:Nat->Option Ent)(t:TypeId)(s:AV):Option (Res×List Prop):=
 match P.underlying t with
 |some (.slice e)=>match szB P e,zeroB P e,s with
   |some sz,some zero,.row b z off n=>match L b with
     |some ent=>if 0<sz/\z=sz/\ent.z=sz/\ent.box=false/\zero.length=sz/\allL AV.one zero=true then
       some ({ val:=.tup [],set:=[(b,{ ent with es:=ent.es.take off++List.replicate n (nrmL P (zj5 P 8 e) zero)++ent.es.drop (off+n) })] },[off+n<=ent.es.length])else none
     |none=>none
   |_,_,_=>none
 |_=>none
theorem zJk{P:Program}{L:Nat->Option Ent}{t:TypeId}{s:AV}{r:Res}{ps:List Prop}(h:pClear P L t s=some (r,ps))(hh:Holds ps):aClear P L t s=some r:=by
 unfold pClear at h;unfold aClear
 cases hu:P.underlying t with
 |none=>simp[hu]at h
 |some td =>
   cases td with
   |slice e =>
     simp only[hu]at h ⊢;split at h
     case h_2=>cases h
     rename_i sz zero b z off n hs hz;simp only[hs,hz];split at h
     case h_2=>cases h
     rename_i ent hl;split at h
     case isFalse=>cases h
     rename_i hc;simp only[zaf,zav]at h;obtain⟨rfl,rfl⟩:=h;rw[hl];simp only;rw[if_pos ⟨hc.1,hc.2.1,hc.2.2.1,hc.2.2.2.1,hc.2.2.2.2.1,hc.2.2.2.2.2,hh.1⟩]
   |_=>simp[hu]at h
def strAt(s:ByteArray)(n:Int):Int:=(((s[n.toNat]?).getD 0).toNat:Int)
theorem zKp{P:Program}{o:Oper}{t:TypeId}{x ix:Operand}{E:Operand->AV}{s:ByteArray}{k:IntKind}{n:Int}(ho:o.op=.index t x ix)(hx:E x=.v (.string s))(hi:E ix=.v (.int k n))
  (hu:P.underlying t=some .string) (h0:0<=n) (h1:n<(s.size:Int)):aPure P o E=some { val:=.v (.int .u8 (strAt s n)) }:=by
 have h1':n.toNat<s.size:=by omega
 have hs:s[n.toNat]?=some s[n.toNat]:=by simp[h1']
 have hr:zdL P (execOp (λx=>((E x).toVal).getD undef) o)=some (.value (.int .u8 (strAt s n))):=by simp[execOp,ho,hx,hi,AV.toVal,Instr.index,asIntOf,underlying,h0,hs,strAt,bind,Sem.bind,Pure.pure];simp[program,zdL,Sem.bind,hu,hs]
 unfold aPure
 have ha:o.op.operands.toList.all (λx=>(E x).toVal.isSome)=true:=by simp[ho,Op.operands,hx,hi,AV.toVal]
 rw[if_pos ha,hr];rfl
end Go.Ab
namespace Go.Ab
open Go.RowKit
variable[Dr]
def pown1(s z:Nat)(e:TypeId)(st:St):Option (St×List Prop):=
 if s<1000/\0<z then
  match get st.t s with
  |.v (.slice none 0 0) =>
    let st':=del s st
    some ({ t:=(s,.row s z 0 0)::st'.t,m:=(s,{ z,e,es:=[],box:=false })::st'.m },[])
  |.row b z' off n=>if b=s then some (st,[])else match look st.m b with
    |some ent=>if b<1000/\off=0/\ent.box=false/\z'=ent.z then
      let st':=del b (del s st)
      some ({ t:=(s,.row s z' 0 n)::st'.t,m:=(s,ent)::st'.m },[n=ent.es.length])
      else none
    |none=>none
  |.map b=>some (if b=s then st else if b<1000 then renS b s (del s st)else st,[])
  |_=>some (st,[])
 else none
theorem zKj{s z:Nat}{e:TypeId}{st st':St}{ps:List Prop}(h:pown1 s z e st=some (st',ps))(hh:Holds ps):own1 s z e st=st':=by
 unfold pown1 at h;unfold own1;split at h
 case isFalse=>cases h
 rename_i hs;rw[if_pos hs];split at h
 ·simp_all
 · rename_i b z' off n hv;rw[hv];simp only;split at h
   ·simp_all
   · rename_i hb;rw[if_neg hb]
     cases hl:look st.m b with
     |none=>simp[hl]at h
     |some ent =>
       simp only[hl]at h ⊢;split at h
       case isFalse=>cases h
       rename_i hc;simp only[zaf,zav]at h;obtain⟨rfl,rfl⟩:=h;rw[if_pos ⟨hc.1,hc.2.1,hh.1,hc.2.2.1,hc.2.2.2⟩]
 ·simp_all
 · rename_i h1 h2 h3;injection h with h;injection h with h;subst h;split
   ·rename_i hv;exact absurd hv h1
   ·rename_i b z' off n hv;exact absurd hv (h2 b z' off n)
   ·rename_i b hv;exact absurd hv (h3 b)
   ·rfl
def zsv:List (Nat×Nat×TypeId)->St->Option (St×List Prop)
 |[],st=>some (st,[])
 |(s,z,e)::r,st=>match pown1 s z e st with
   |none=>none
   |some (st',ps)=>match zsv r st' with
     |none=>none
     |some (st'',qs)=>some (st'',ps++qs)
theorem ztC:∀(l:List (Nat×Nat×TypeId)) (st st':St) (ps:List Prop),zsv l st=some (st',ps)->Holds ps->ownAll l st=st'
 |[],st,st',ps,h,_=>by simp[zsv]at h;exact h.1
 |(s,z,e)::r,st,st',ps,h,hh=>by
   simp only[zsv]at h
   cases h1:pown1 s z e st with
   |none=>simp[h1]at h
   |some q =>
     obtain⟨st1,p1⟩:=q;simp only[h1]at h
     cases h2:zsv r st1 with
     |none=>simp[h2]at h
     |some q=>obtain⟨st2,p2⟩:=q;simp only[h2,zaf,zav]at h;obtain⟨rfl,rfl⟩:=h;rw[zeo]at hh;simp only[ownAll];rw[zKj h1 hh.1];exact ztC r st1 st2 p2 h2 hh.2
def pfr1(bs:List Nat)(L:Nat->Option Ent):Nat->AV->Option (AV×List Prop)
 |0,_=>some (.bot,[])
 |k+1,a=>match a with
   |.loc c z i o=>if bs.contains c then(if((AV.loc c z i o).ids L 5).all bs.contains then psnap L 5 (.loc c z i o)else some (.bot,[]))else some (.loc c z i o,[])
   |.row c z o n=>if bs.contains c then psnap L 5 (.row c z o n)else some (.row c z o n,[])
   |.agg cs=>match mapO (pfr1 bs L k) cs with
     |some l=>some (.agg (l.map (·.1)),l.flatMap (·.2))
     |none=>none
   |.tup cs=>match mapO (pfr1 bs L k) cs with
     |some l=>some (.tup (l.map (·.1)),l.flatMap (·.2))
     |none=>none
   |.fn f cs=>match mapO (pfr1 bs L k) cs with
     |some l=>some (.fn f (l.map (·.1)),l.flatMap (·.2))
     |none=>none
   |.v x=>some (.v x,[])
   |.sl z es=>some (.sl z es,[])
   |.fp cs=>some (.fp cs,[])
   |.map c=>if bs.contains c then psnap L 5 (.map c)else some (.map c,[])
   |.mp es=>some (.mp es,[])
   |.fa z es=>some (.fa z es,[])
   |_=>some (.bot,[])
theorem mapO_map{α β γ:Type}{g:α->Option γ}{f:α->β}{t:γ->β}:∀{l:List α} {r:List γ},mapO g l=some r->(∀a c,c∈r->g a=some c->f a=t c)->l.map f=r.map t
 |[],r,h,_=>by simp[mapO]at h;subst h;rfl
 |a::l,r,h,hf=>by
   simp only[mapO]at h
   cases hg:g a with
   |none=>simp[hg]at h
   |some c =>
     simp only[hg]at h
     cases hm:mapO g l with
     |none=>simp[hm]at h
     |some l'=>simp only[hm,zaf]at h;subst h;rw[zbJ,zbJ,hf a c (by simp) hg,mapO_map hm (λa' c' hc=>hf a' c' (by simp[hc]))]
theorem zFw{bs:List Nat}{L:Nat->Option Ent}:∀(k:Nat) (a a':AV) (ps:List Prop),pfr1 bs L k a=some (a',ps)->Holds ps->zfu bs L k a=a':=by
 intro k
 induction k with
 |zero=>intro a a' ps h _;simp only[pfr1,zaf,zav]at h;exact h.1
 |succ k ih =>
   intro a a' ps h hh
   have lists:∀(cs:List AV) (l:List (AV×List Prop)),mapO (pfr1 bs L k) cs=some l->Holds (l.flatMap (·.2))->cs.map (zfu bs L k)=l.map (·.1):=λcs l hm hl=>mapO_map hm (λa c hc hg=>ih a c.1 c.2 hg (zFh hl c hc))
   cases a with
   |loc c z i o =>
     simp only[pfr1]at h;simp only[zfu];split at h
     · rename_i hc;rw[if_pos hc];split at h
       ·rename_i hi;rw[if_pos hi,zj2 5 _ _ _ h hh];rfl
       grind
     simp_all
   |row c z o n =>
     simp only[pfr1]at h;simp only[zfu];split at h
     ·rename_i hc;rw[if_pos hc,zj2 5 _ _ _ h hh];rfl
     simp_all
   |agg cs =>
     simp only[pfr1]at h;split at h
     ·rename_i l hm;simp only[zaf,zav]at h;obtain⟨rfl,rfl⟩:=h;simp only[zfu];rw[lists cs l hm hh]
     ·cases h
   |tup cs =>
     simp only[pfr1]at h;split at h
     ·rename_i l hm;simp only[zaf,zav]at h;obtain⟨rfl,rfl⟩:=h;simp only[zfu];rw[lists cs l hm hh]
     ·cases h
   |fn f cs =>
     simp only[pfr1]at h;split at h
     ·rename_i l hm;simp only[zaf,zav]at h;obtain⟨rfl,rfl⟩:=h;simp only[zfu];rw[lists cs l hm hh]
     ·cases h
   |map c =>
     simp only[pfr1]at h;simp only[zfu];split at h
     ·rename_i hc;rw[if_pos hc,zj2 5 _ _ _ h hh];rfl
     simp_all
   |_=>simp only[pfr1,zaf,zav]at h;exact h.1
def pfrT(bs:List Nat)(L:Nat->Option Ent):Tab->Option (Tab×List Prop)
 |[]=>some ([],[])
 |(j,a)::r=>match pfr1 bs L 4 a,pfrT bs L r with
   |some (a',ps),some (r',qs)=>some ((j,a')::r',ps++qs)
   |_,_=>none
theorem zFx{bs:List Nat}{L:Nat->Option Ent}:∀(t t':Tab) (ps:List Prop),pfrT bs L t=some (t',ps)->Holds ps->zut bs L t=t'
 |[],t',ps,h,_=>by simp only[pfrT,zaf,zav]at h;exact h.1
 |(j,a)::r,t',ps,h,hh=>by
   simp only[pfrT]at h;split at h
   ·rename_i a' p1 r' p2 h1 h2;simp only[zaf,zav]at h;obtain⟨rfl,rfl⟩:=h;rw[zeo]at hh;simp only[zut];rw[zFw 4 a a' p1 h1 hh.1,zFx r r' p2 h2 hh.2]
   ·cases h
def pfrCs(bs:List Nat)(L:Nat->Option Ent):List AV->Option (List AV×List Prop)
 |[]=>some ([],[])
 |a::r=>match pfr1 bs L 4 a,pfrCs bs L r with
   |some (a',ps),some (r',qs)=>some (a'::r',ps++qs)
   |_,_=>none
theorem zCC{bs:List Nat}{L:Nat->Option Ent}:∀(t t':List AV) (ps:List Prop),pfrCs bs L t=some (t',ps)->Holds ps->t.map (zfu bs L 4)=t'
 |[],t',ps,h,_=>by simp only[pfrCs,zaf,zav]at h;exact h.1
 |a::r,t',ps,h,hh=>by
   simp only[pfrCs]at h;split at h
   ·rename_i a' p1 r' p2 h1 h2;simp only[zaf,zav]at h;obtain⟨rfl,rfl⟩:=h;rw[zeo]at hh;rw[zbJ,zFw 4 a a' p1 h1 hh.1,zCC r r' p2 h2 hh.2]
   ·cases h
def pfrE(bs:List Nat)(L:Nat->Option Ent)(e:Ent):Option (Ent×List Prop):=
 match e with
 |⟨z,t,es,b⟩=>match b with
   |true=>(match es with
     |[cs]=>(match pfrCs bs L cs with
       |some (cs',ps)=>some (⟨z,t,[cs'],true⟩,ps)
       |none=>none)
     |_=>none)
   |false=>some (⟨z,t,es,false⟩,[])
theorem pfrE_sound{bs:List Nat}{L:Nat->Option Ent}{e e':Ent}{ps:List Prop}(h:pfrE bs L e=some (e',ps))(hh:Holds ps):(if e.box then{ e with es:=e.es.map λcs=>cs.map (zfu bs L 4) }else e)=e':=by
 obtain⟨z,t,es,b⟩:=e
 cases b with
 |true =>
   simp only[pfrE]at h;split at h
   · rename_i cs;split at h
     ·rename_i cs' p1 h1;simp only[zaf,zav]at h;obtain⟨rfl,rfl⟩:=h;simp only[if_true,zbJ,ze1];rw[zCC cs cs' _ h1 hh]
     ·cases h
   ·cases h
 |false =>
   simp only[pfrE,zaf,zav]at h
   simp_all
def pfrM(bs:List Nat)(L:Nat->Option Ent):Mem->Option (Mem×List Prop)
 |[]=>some ([],[])
 |(j,e)::r=>if bs.contains j then pfrM bs L r else match pfrE bs L e,pfrM bs L r with
   |some (e',ps),some (r',qs)=>some ((j,e')::r',ps++qs)
   |_,_=>none
theorem zyF{bs:List Nat}{L:Nat->Option Ent}:∀(m m':Mem) (ps:List Prop),pfrM bs L m=some (m',ps)->Holds ps->zqF bs L m=m'
 |[],m',ps,h,_=>by simp only[pfrM,zaf,zav]at h;exact h.1
 |(j,e)::r,m',ps,h,hh=>by
   simp only[pfrM]at h;simp only[zqF];split at h
   ·rename_i hc;rw[if_pos hc];exact zyF r m' ps h hh
   · rename_i hc;rw[if_neg hc];split at h
     ·rename_i e' p1 r' p2 h1 h2;simp only[zaf,zav]at h;obtain⟨rfl,rfl⟩:=h;rw[zeo]at hh;rw[pfrE_sound h1 hh.1,zyF r r' p2 h2 hh.2]
     ·cases h
def zrz(bs:List Nat)(st:St):Option (St×List Prop):=
 match bs with
 |[]=>some (st,[])
 |bs=>match pfrT bs (look st.m) st.t,pfrM bs (look st.m) st.m with
   |some (t,ps),some (m,qs)=>some (⟨t,m⟩,ps++qs)
   |_,_=>none
theorem zvc{bs:List Nat}{st st':St}{ps:List Prop}(h:zrz bs st=some (st',ps))(hh:Holds ps):zeH bs st=st':=by
 cases bs with
 |nil=>simp only[zrz,zaf,zav]at h;exact h.1
 |cons b bs =>
   simp only[zrz]at h;split at h
   ·rename_i t p1 m p2 h1 h2;simp only[zaf,zav]at h;obtain⟨rfl,rfl⟩:=h;rw[zeo]at hh;simp only[zeH];rw[zFx _ _ _ h1 hh.1,zyF _ _ _ h2 hh.2]
   ·cases h
def zvd(l:List Nat)(st:St):Option (St×List Prop):=
 match l with
 |[]=>some (st,[])
 |l=>if(fzIds l st).all (λb=>decide (b<1000)&&(look st.m b).isSome)=true then zrz (fzIds l st) st else none
theorem zsu{l:List Nat}{st st':St}{ps:List Prop}(h:zvd l st=some (st',ps))(hh:Holds ps):znu l st=st':=by
 unfold zvd at h;unfold znu;split at h
 ·simp_all
 · split at h
   ·rename_i hc;simp only;rw[if_pos hc];exact zvc h hh
   ·cases h
def ptidy(A:Ann)(id:Nat)(st:St):Option (St×List Prop):=
 match zvd (A.fz id) st with
 |none=>none
 |some (st,p0)=>match zsv (A.own id) st with
  |none=>none
  |some (st,ps)=>match zr9 (A.cel id) st with
   |st=>match A.live id with
    |some l=>match delAll (deadIds { st with t:=zle l st.t }) { st with t:=zle l st.t }with
      |⟨t,m⟩=>some (⟨t,sortM m⟩,p0++ps)
    |none=>some (st,p0++ps)
theorem zCD{A:Ann}{id:Nat}{st st':St}{ps:List Prop}(h:ptidy A id st=some (st',ps))(hh:Holds ps):tidy A id st=st':=by
 unfold ptidy at h
 cases h0:zvd (A.fz id) st with
 |none=>simp[h0]at h
 |some q0 =>
   obtain⟨st0,p0⟩:=q0;simp only[h0]at h
   cases h1:zsv (A.own id) st0 with
   |none=>simp[h1]at h
   |some q =>
     obtain⟨st1,p1⟩:=q;simp only[h1]at h;unfold tidy;split at h
     ·rename_i l hl;simp only[zaf,zav]at h;obtain⟨rfl,rfl⟩:=h;rw[zeo]at hh;simp only;rw[zsu h0 hh.1,ztC _ _ _ _ h1 hh.2,hl]
     ·rename_i hl;simp only[zaf,zav]at h;obtain⟨rfl,rfl⟩:=h;rw[zeo]at hh;simp only;rw[zsu h0 hh.1,ztC _ _ _ _ h1 hh.2,hl]
inductive It where
 |code (c:Code)
 |inBlock (id:Nat)
 |inLoop (c:Code)
structure Fr where
 P:Program
 C:Cfg
 F:AnnF
 f:FuncId
 fn:Func
 ms:Mem
def Fr.ev(R:Fr)(c:Code)(st:St):Option (Ex×St):=aeval R.P R.C (R.F R.f) R.fn.ntmps (callw R.P R.C R.F) itw c st
def run(R:Fr):List It->Ex->St->Option (AV×Mem)
 |[],e,st=>zqJ R.P (R.F R.f).frz R.fn R.ms (some (e,st))
 |.code c::k,.normal,st=>match R.ev c st with
   |some (e,st')=>run R k e st'
   |none=>none
 |.inLoop c::k,.normal,st=>match itw (R.ev c) st with
   |some (e,st')=>run R k e st'
   |none=>none
 |.inBlock id::k,.exit j,st=>if j=id then run R k .normal st else run R k (.exit j) st
 |.inBlock _::k,.normal,st=>run R k .normal st
 |_::k,e,st=>run R k e st
theorem zxx(R:Fr):∀(k:List It) (st:St),run R k .ret st=zqJ R.P (R.F R.f).frz R.fn R.ms (some (.ret,st))
 |[],_=>rfl
 |.code _::k,st=>zxx R k st
 |.inLoop _::k,st=>zxx R k st
 |.inBlock _::k,st=>zxx R k st
def dropTo(id:Nat):List It->Option (List It)
 |[]=>none
 |.inBlock j::k=>if id=j then some k else dropTo id k
 |_::k=>dropTo id k
theorem zyL(R:Fr)(id:Nat):∀(k k':List It) (st:St),dropTo id k=some k'->run R k (.exit id) st=run R k' .normal st
 |[],k',st,h=>by simp[dropTo]at h
 |.code c::k,k',st,h=>zyL R id k k' st h
 |.inLoop c::k,k',st,h=>zyL R id k k' st h
 |.inBlock j::k,k',st,h=>by
   simp only[dropTo]at h;simp only[run];split at h
   ·simp_all
   ·rename_i hj;rw[if_neg hj];exact zyL R id k k' st h
def pout(frz:Bool)(m:Mem)(a:AV):Option (AV×List Prop):=
 let L:Nat->Option Ent:=λb=>if b<1000 then look m b else none
 match a with
 |.row b z off n=>if 1000<=b then(if frz=false/\(look m b).isSome=true then some (.row b z off n,[])else none)else match L b with
   |some ent=>if frz=false/\ent.z=z/\off=0/\ent.box=false/\0<z then some (.new z ent.e ent.es,[n=ent.es.length])else if frz=true then psnap L 5 (.row b z off n)else none
   |none=>none
 |.loc b z i o=>match outOf frz m (.loc b z i o)with
   |some r=>some (r,[])
   |none=>none
 |.map b=>match outOf frz m (.map b)with
   |some r=>some (r,[])
   |none=>none
 |a=>psnap L 5 a
theorem zyG{frz:Bool}{m:Mem}{a r:AV}{ps:List Prop}(h:pout frz m a=some (r,ps))(hh:Holds ps):outOf frz m a=some r:=by
 unfold pout at h;simp only at h
 cases a with
 |row b z off n =>
   simp only at h;simp only[outOf];split at h
   ·simp_all
   rename_i hge;rw[if_neg hge];split at h
   case h_2=>cases h
   rename_i ent hl;split at h
   ·rename_i hc;simp only[zaf,zav]at h;obtain⟨rfl,rfl⟩:=h;rw[hl];simp only;rw[if_pos ⟨hc.1,hc.2.1,hc.2.2.1,hh.1,hc.2.2.2.1,hc.2.2.2.2⟩]
   · split at h
     ·rename_i hf;rw[hl];simp only;rw[if_neg (by rw[hf];simp)];exact zj2 5 _ _ _ h hh
     ·cases h
 |loc b z i o=>grind
 |map b=>grind
 |_=>exact zj2 5 _ _ _ h hh
def pout1(P:Program)(frz:Bool)(t:TypeId)(m:Mem)(a:AV):Option (AV×List Prop):=
 match a,frz with
 |.v (.slice none 0 0),false=>(match P.underlying t with
   |some (.slice e)=>(match szB P e with
     |some z=>if 0<z then some (.new z e [],[])else none
     |none=>none)
   |_=>none)
 |a,frz=>pout frz m (nrm P t a)
theorem zKi{P:Program}{frz:Bool}{t:TypeId}{m:Mem}{a r:AV}{ps:List Prop}(h:pout1 P frz t m a=some (r,ps))(hh:Holds ps):out1 P frz t m a=some r:=by
 unfold pout1 at h;unfold out1;split at h
 ·grind
 · rename_i hne;split
   ·simp_all
   ·exact zyG h hh
def presult(P:Program)(frz:Bool)(fn:Func)(st:St):Option (AV×List Prop):=
 match mapO (resVar P st) fn.results.toList with
 |some [a]=>pout1 P frz (fn.resultTypes.getD 0 0) st.m a
 |some l=>pout frz st.m (.tup (nrmA P fn.resultTypes.toList l))
 |none=>none
theorem zH4{P:Program}{frz:Bool}{fn:Func}{st:St}{r:AV}{ps:List Prop}(h:presult P frz fn st=some (r,ps))(hh:Holds ps):ziU P frz fn st=some r:=by
 unfold presult at h;unfold ziU
 cases hl:mapO (resVar P st) fn.results.toList with
 |none=>simp[hl]at h
 |some l =>
   simp only[hl]at h
   cases l with
   |nil=>exact zyG h hh
   |cons a l=>cases l with
     |nil=>exact zKi h hh
     |cons b l=>exact zyG h hh
abbrev I(n:Int):AV:=.v (.int .i64 n)
abbrev B(b:Bool):AV:=.v (.bool b)
def liveAt:List (Nat×List Nat)->Nat->Option (List Nat)
 |[],_=>none
 |(j,l)::r,id=>if id=j then some l else liveAt r id
def atReg{α:Type}:List (Nat×List α)->Nat->List α
 |[],_=>[]
 |(j,l)::r,id=>if id=j then l else atReg r id
def heads:Code->List It->List (List It)
 |.seq a b,k=>heads a (.code b::k)++heads b k
 |.cond _ x y,k=>heads x k++heads y k
 |.block id c,k=>heads c (.inBlock id::k)
 |.loop c,k=>(.inLoop c::k)::heads c (.inLoop c::k)
 |_,_=>[]
def ptK(fn:Func)(j:Nat):List It:=
 match fn.body,j with
 |some c,0=>[.code c]
 |some c,j+1=>((heads c [])[j]?).getD []
 |none,_=>[]
end Go.Ab
end
