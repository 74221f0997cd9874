/- Operations on maps. -/
import Derived.Test.YtcpnffbcljkbkaaGreatDoorAb0
import Derived.MapKept
import Derived.WideKeyRuns
import Derived.Laws.BytesString
import Derived.LoopN
set_option linter.all false
noncomputable section
namespace Go.Ab
open Go.RowKit
section
variable[Dr]
abbrev zD:=zB @AV.mp.injEq (zB @AV.sl.injEq (zB @AV.v.injEq (zB @Value.bool.injEq (zB @Value.int.injEq (zB @Value.pointer.injEq (zB @Value.string.injEq (zB @and_true (zB @true_and @zap.{0}))))))))
abbrev zG:=zB @zaf.{0} @zan.{0,0}
abbrev zH:=zB @or_false @zat.{0}
abbrev zK:=zB @if_false.{1} @za0
abbrev zM:=zB @zaJ.{0} (zB @zaW.{0} @zba.{0})
abbrev zO:=zB @decide_eq_true_eq @zaU
def First(P:Program)(t:TypeId)(k:AV)(es:aS):Option Nat->Prop
 |none=>∀cs∈es,∃ka va,cs=[ka,va]/\keyEq P t k ka=some false
 |some j=>(∃ka va,es[j]?=some [ka,va]/\keyEq P t k ka=some true)/\∀i<j,∃ka va,es[i]?=some [ka,va]/\keyEq P t k ka=some false
section
variable{P:Program}{t:TypeId}{k:AV}
def First.nil:First P t k [] none:=λcs h=>by cases h
def First.cons{ka va:AV}{es:aS}{o:aZ}(he:keyEq P t k ka=some false)(h:First P t k es o):First P t k ([ka,va]::es) (o.map (·+1)):=by
 cases o with
 |none =>
   intro cs hcs;rcases zat.1 hcs with rfl|hcs
   .simp_all
   .exact h cs hcs
 |some j =>
   obtain⟨⟨k1,v1,h1,h2⟩,h3⟩:=h;refine⟨⟨k1,v1,by simpa using h1,h2⟩,λi hi=>?_⟩
   cases i with
   |zero=>simp_all
   |succ i=>simp_all
def First.head{ka va:AV}{es:aS}(he:keyEq P t k ka=some true):First P t k ([ka,va]::es) (some 0):=
 ⟨⟨ka,va,rfl,he⟩,λi hi=>by omega⟩
def zyF:∀{es:aS} {o:Option AV},mlook P t k es=some o->(o=none/\First P t k es none)\/∃j ka va,o=some va/\es[j]?=some [ka,va]/\First P t k es (some j)
 |[],o,h=>by simp only[mlook,zaf]at h;exact .inl ⟨h.symm,.nil⟩
 |[ka,va]::r,o,h=>by
   simp only[mlook]at h;split at h
   .rename_i he;simp only[zaf]at h;exact .inr ⟨0,ka,va,h.symm,rfl,.head he⟩
   . rename_i he;rcases zyF h with⟨h1,h2⟩|⟨j,k1,v1,h1,h2,h3⟩
     .exact .inl ⟨h1,h2.cons he⟩
     .exact .inr ⟨j+1,k1,v1,h1,by simpa using h2,h3.cons he⟩
   .cases h
 |[]::r,o,h=>by simp[mlook]at h
 |[_]::r,o,h=>by simp[mlook]at h
 |(_::_::_::_)::r,o,h=>by simp[mlook]at h
def zGC{v:AV}:∀{es es':aS},mset P t k v es=some es'->(First P t k es none/\es'=es++[[k,v]])\/∃j,First P t k es (some j)/\es'=es.set j [k,v]
 |[],es',h=>by simp only[mset,zaf]at h;exact .inl ⟨.nil,h.symm⟩
 |[ka,va]::r,es',h=>by
   simp only[mset]at h;split at h
   .rename_i he;simp only[zaf]at h;exact .inr ⟨0,.head he,h.symm⟩
   . rename_i he;split at h
     . rename_i l hl;simp only[zaf]at h;rcases zGC hl with⟨h1,h2⟩|⟨j,h1,h2⟩
       .exact .inl ⟨h1.cons he,by rw[<-h,h2];rfl⟩
       .exact .inr ⟨j+1,h1.cons he,by rw[<-h,h2];rfl⟩
     .cases h
   .cases h
 |[]::r,o,h=>by simp[mset]at h
 |[_]::r,o,h=>by simp[mset]at h
 |(_::_::_::_)::r,o,h=>by simp[mset]at h
def zGy:∀{es es':aS},mdel P t k es=some es'->(First P t k es none/\es'=es)\/∃j,First P t k es (some j)/\es'=es.eraseIdx j
 |[],es',h=>by simp only[mdel,zaf]at h;exact .inl ⟨.nil,h.symm⟩
 |[ka,va]::r,es',h=>by
   simp only[mdel]at h;split at h
   .rename_i he;simp only[zaf]at h;exact .inr ⟨0,.head he,by rw[<-h];rfl⟩
   . rename_i he;split at h
     . rename_i l hl;simp only[zaf]at h;rcases zGy hl with⟨h1,h2⟩|⟨j,h1,h2⟩
       .exact .inl ⟨h1.cons he,by rw[<-h,h2]⟩
       .exact .inr ⟨j+1,h1.cons he,by rw[<-h,h2];rfl⟩
     .cases h
   .cases h
 |[]::r,o,h=>by simp[mdel]at h
 |[_]::r,o,h=>by simp[mdel]at h
 |(_::_::_::_)::r,o,h=>by simp[mdel]at h
end
def bitsB_same{x y:Value}(n:Nat)(h:bitsB x y=some true):Instr.sameBits n x y=true:=by
 unfold bitsB at h;split at h
 . split at h
   .rename_i hk;subst hk;simp only[zaf]at h;cases n<;>simpa[Instr.sameBits]using h
   .cases h
 .simp only[zaf]at h;cases n<;>simpa[Instr.sameBits]using h
 .simp only[zaf]at h;cases n<;>simpa[Instr.sameBits]using h
 .cases h
def zEv(n:Nat):∀{xs ys:af},bitsL xs ys=some true->xs.length=ys.length/\(xs.zip ys).all (λ(x,y)=>Instr.sameBits n x y)=true
 |[],[],_=>⟨rfl,rfl⟩
 |x::r,y::s,h=>by
   simp only[bitsL]at h;obtain⟨a,b,ha,hb,hab⟩:=zuI h;have h1:a=true:=by cases a<;>simp at hab ⊢
   have h2:b=true:=by grind
   subst h1;subst h2;obtain⟨i1,i2⟩:=zEv n hb;refine⟨by simp[i1],?_⟩;rw[List.zip_cons_cons,ziA];rw[zaU];exact⟨bitsB_same n ha,i2⟩
 |[],_::_,h=>by simp[bitsL]at h
 |_::_,[],h=>by simp[bitsL]at h
def zKu{td:TypeDesc}{x y:Value}(n:Nat)(h:Instr.sameNow td x y=some true):Instr.sameBits n x y=true:=by
 unfold Instr.sameNow at h;split at h
 . split at h
   .rename_i hk;subst hk;simp only[zaf]at h;cases n<;>simpa[Instr.sameBits]using h
   .cases h
 .simp only[zaf]at h;cases n<;>simpa[Instr.sameBits]using h
 .simp only[zaf]at h;cases n<;>simpa[Instr.sameBits]using h
 .cases h
section
variable{P:Program}{S:aD}{κ:Kap}{D:aD}{w:World}
def scalT_agg{t:TypeId}(h:scalT P t=true):isAggB P t=some false:=by
 unfold scalT at h;split at h
 .rename_i hu;exact zjP hu
 .rename_i hu;exact zjP hu
 .rename_i hu;exact zjP hu
 .cases h
def ztG{t:TypeId}(h:scalT P t=true)(em:Bool)(n:Nat)(x:Value)(w:World):(Instr.checkKey em (n+1) t x).run P w=.ok () w:=by
 unfold scalT at h;split at h
 .rename_i hu;simp[Instr.checkKey,run_underlying hu]
 .rename_i hu;simp[Instr.checkKey,run_underlying hu]
 .rename_i hu;simp[Instr.checkKey,run_underlying hu]
 .cases h
def zGP{t:TypeId}(h:scalT P t=true){arr:aV}{off:Nat}(ho:off<arr.size)(w:World):(part t arr off).run P w=.ok arr[off] w:=by simp only[zK,part,Sem.run_bind,zoy (scalT_agg h),Result.andThen_ok,zaN ho,Sem.run_pure]
def keyAV_val{t:TypeId}{k:AV}{x:Value}(h:keyAV P t k=true)(hr:VRel S κ D w k x):CRel S w k x:=by
 unfold keyAV at h;split at h
 .rw[hr.v_inv];exact .v _
 . rename_i cs;split at h
   .rename_i xs fs hm hu;obtain⟨vs,rfl,hl,h1,hp⟩:=hr.agg_inv;refine .agg cs vs hl h1 (λj c x hc hx=>?_);obtain⟨_,h2⟩:=zms hm;obtain⟨b,_,hb⟩:=h2 j c hc;have:=zyO hb (hp j c x hc hx);cases c<;>simp[AV.scal]at hb;subst hb;rw[this];exact .v _
   .rename_i xs n e hm hu;obtain⟨vs,rfl,hl,h1,hp⟩:=hr.agg_inv;refine .agg cs vs hl h1 (λj c x hc hx=>?_);obtain⟨_,h2⟩:=zms hm;obtain⟨b,_,hb⟩:=h2 j c hc;have:=zyO hb (hp j c x hc hx);cases c<;>simp[AV.scal]at hb;subst hb;rw[this];exact .v _
   .cases h
 .cases h
def zxj{t:TypeId}{k:AV}{x:Value}(h:keyAV P t k=true)(hr:VRel S κ D w k x)(em:Bool)(w':World):(Instr.checkKey em 10000 t x).run P w'=.ok () w':=by
 unfold keyAV at h;split at h
 .simp only[zaU]at h;exact ztG h.1 em 9999 x w'
 . rename_i cs;split at h
   . rename_i xs fs hm hu;simp only[zO,zbd]at h;have ex:=znu hm hr;subst ex
     have key:∀(l:List Field),(∀f∈l,scalT P f.type=true/\f.offset<xs.length)->∀w':World,(forIn (m:=Sem) l PUnit.unit (λf _=>do
        if f.name ≠ "_" then Instr.checkKey em 9999 f.type (<-part f.type xs.toArray f.offset)
        pure (ForInStep.yield PUnit.unit))).run P w'=.ok PUnit.unit w':=by
      intro l
      induction l with
      |nil=>intro _ w';simp
      |cons f l ih =>
        intro hf w';obtain⟨f1,f2⟩:=hf f (by simp);have ihl:=ih (λg hg=>hf g (by simp[hg])) w';rw[List.forIn_cons];by_cases hn:f.name = "_"
        .simp_all
        .simp only[hn,ne_eq,not_false_eq_true,if_true,Sem.run_bind,zGP f1 (arr:=xs.toArray) (by simpa using f2) w',Result.andThen_ok,ztG f1 em 9998,Sem.run_pure];exact ihl
     have:=key fs.toList h.2 w';rw[show(10000:Nat)=9999+1 from rfl,Instr.checkKey];simp only[Sem.run_bind,run_underlying hu,Result.andThen_ok]
     simp_all
   . rename_i xs n e hm hu;simp only[zO,beq_iff_eq]at h;obtain⟨h1,h2,h3,h4⟩:=h;have ex:=znu hm hr;subst ex
     have key:∀(l:aO),(∀i∈l,i<xs.length)->∀w':World,(forIn (m:=Sem) l PUnit.unit (λi _=>do
        Instr.checkKey em 9999 e (<-part e xs.toArray (i*(<-sizeOf e)))
        pure (ForInStep.yield PUnit.unit))).run P w'=.ok PUnit.unit w':=by
      intro l
      induction l with
      |nil=>intro _ w';simp
      |cons i l ih=>intro hf w';have f2:=hf i (by simp);have ihl:=ih (λg hg=>hf g (by simp[hg])) w';rw[List.forIn_cons];simp only[Sem.run_bind,zdY h3,Result.andThen_ok,Nat.mul_one,zGP h2 (arr:=xs.toArray) (by simpa using f2) w',ztG h2 em 9998,Sem.run_pure];exact ihl
     have:=key (List.range' 0 n) (λi hi=>by grind) w';rw[show(10000:Nat)=9999+1 from rfl,Instr.checkKey];simp only[Sem.run_bind,run_underlying hu,Result.andThen_ok]
     simp_all
   .cases h
 .cases h
def zsA{t:TypeId}{k:AV}{x:Value}{es:aS}{en:List MapEntry}{o:aZ}(hF:First P t k es o)(hr:VRel S κ D w k x)(hlen:en.length=es.length)
  (hk:∀(i:Nat) (ka va:AV) (e:MapEntry),es[i]?=some [ka,va]->en[i]?=some e->CRel S w ka e.key) (hkey:keyAV P t k=true) (w':World):∃q:Option (Nat×Value),(Instr.findKey t x en).run P w'=.ok q w'/\(match o with
   |none=>q=none
   |some j=>∃e,en[j]?=some e/\q=some (j,e.val)/\Instr.sameBits 10000 e.key x=true):=by
 unfold keyAV at hkey;split at hkey
 . rename_i y;have hx:=hr.v_inv;subst hx;simp only[zaU]at hkey
   obtain⟨td,hu⟩:∃td,P.underlying t=some td:=by
    have:=hkey.1;unfold scalT at this
    grind
   have hne:∀ka:AV,∀r,keyEq P t (.v x) ka=some r->∃z,ka=.v z/\Instr.sameNow td x z=some r:=by intro ka r h;cases ka<;>simp[keyEq,hu]at h;exact⟨_,rfl,h⟩
   have sym:∀{td:TypeDesc} {a b:Value},Instr.sameNow td a b=some true->Instr.sameBits 10000 b a=true:=by
    intro td a b h;refine zKu 10000 (td:=td) ?_;unfold Instr.sameNow at h ⊢;split at h
    .simp_all
    .simp only[zaf]at h;simp[MapKept.bytes_beq]at h ⊢;rw[h]
    .simp_all
    .cases h
   have main:∀(es:aS) (en:List MapEntry) (o:aZ) (s:Nat),First P t (.v x) es o->en.length=es.length->(∀(i:Nat) (ka va:AV) (e:MapEntry),es[i]?=some [ka,va]->en[i]?=some e->CRel S w ka e.key)->∃q,Instr.findNow td x en s=some q/\(match o with
      |none=>q=none
      |some j=>∃e,en[j]?=some e/\q=some (s+j,e.val)/\Instr.sameBits 10000 e.key x=true):=by
    intro es
    induction es with
    |nil =>
      intro en o s hF hl _;have:en=[]:=zd6.1 (by simpa using hl);subst this
      cases o with
      |none=>exact⟨none,rfl,rfl⟩
      |some j=>obtain⟨⟨ka,va,h,_⟩,_⟩:=hF;simp at h
    |cons cs es ih =>
      intro en o s hF hl hk
      cases en with
      |nil=>simp at hl
      |cons e en =>
        have hk':∀(i:Nat) (ka va:AV) (e:MapEntry),es[i]?=some [ka,va]->en[i]?=some e->CRel S w ka e.key:=λi ka va e h1 h2=>hk (i+1) ka va e (by simpa using h1) (by simpa using h2)
        cases o with
        |none=>obtain⟨ka,va,rfl,he⟩:=hF cs (by simp);obtain⟨z,rfl,hz⟩:=hne ka false he;have hc:=hk 0 _ va e rfl rfl;cases hc;obtain⟨q,h1,h2⟩:=ih en none (s+1) (λc hc=>hF c (by simp[hc])) (by simpa using hl) hk';exact⟨q,by simp only[Instr.findNow,hz];exact h1,h2⟩
        |some j =>
          cases j with
          |zero=>obtain⟨⟨ka,va,h1,he⟩,_⟩:=hF;simp only[zbI,zaf]at h1;subst h1;obtain⟨z,rfl,hz⟩:=hne ka true he;have hc:=hk 0 _ va e rfl rfl;cases hc;exact⟨some (s,e.val),by simp only[Instr.findNow,hz],e,rfl,rfl,sym hz⟩
          |succ j =>
            obtain⟨⟨ka,va,h1,he⟩,h3⟩:=hF;obtain⟨k0,v0,g1,g2⟩:=h3 0 (by omega);simp only[zbI,zaf]at g1;subst g1;obtain⟨z,rfl,hz⟩:=hne k0 false g2;have hc:=hk 0 _ v0 e rfl rfl;cases hc;obtain⟨q,h1',h2'⟩:=ih en (some j) (s+1) ⟨⟨ka,va,by simpa using h1,he⟩,λi hi=>by grind⟩ (by simpa using hl) hk';refine⟨q,by simp only[Instr.findNow,hz];exact h1',?_⟩
            grind
   obtain⟨q,h1,h2⟩:=main es en o 0 hF hlen hk;refine⟨q,MapKept.run_findKey hu h1,?_⟩
   grind
 . rename_i cs
   have hwide:(match P.underlying t with|some (.array _ _)|some (.struct _)=>true|_=>false)=true/\∃xs,mapO AV.scal cs=some xs:=by
    split at hkey
    .simp_all
    .simp_all
    .cases hkey
   obtain⟨hwide,xs,hm⟩:=hwide;have ex:=znu hm hr;subst ex
   have hne:∀ka:AV,∀r,keyEq P t (.agg cs) ka=some r->∃ds ys,ka=.agg ds/\mapO AV.scal ds=some ys/\isAggB P t=some true/\eqV P 20 t xs ys=some r/\bitsL xs ys=some r:=by
    intro ka r h;cases ka<;>simp only[keyEq,hm]at h<;>try(cases h;done)
    rename_i ds
    cases hd:mapO AV.scal ds with
    |none=>simp[hd]at h
    |some ys =>
      simp only[hd]at h;split at h
      . rename_i ha;refine⟨ds,ys,rfl,hd,ha,?_⟩;unfold agree at h
        grind
      .cases h
   have run1:∀(ka:AV) (r:Bool) (y:Value) (w':World),keyEq P t (.agg cs) ka=some r->CRel S w ka y->(Op.equal t (.agg xs.toArray) y).run P w'=.ok r w'/\(r=true->Instr.sameBits 10000 y (.agg xs.toArray)=true):=by
    intro ka r y w' he hc;obtain⟨ds,ys,rfl,hd,ha,h1,h2⟩:=hne ka r he;have ey:=znu (κ:=κ) (D:=D) hd (.c hc);subst ey;refine⟨?_,λhr=>?_⟩
    .have:=zAS (P:=P) 20 t xs ys r h1 9980 _ _ w' (.inl ⟨ha,rfl⟩) (.inl ⟨ha,rfl⟩);rw[show(9980+20:Nat)=Op.maxDepth from rfl]at this;exact this
    . subst hr
      have hsym:bitsL ys xs=some true:=by
       clear h1 hd ha hm he hr hc hkey hF hk hlen hne
       induction xs generalizing ys with
       |nil=>cases ys with
         |nil=>rfl
         |cons _ _=>simp[bitsL]at h2
       |cons a xs ih=>cases ys with
         |nil=>simp[bitsL]at h2
         |cons b ys =>
           simp only[bitsL]at h2 ⊢;obtain⟨p,q,hp,hq,hpq⟩:=zuI h2;have h1:p=true:=by cases p<;>simp at hpq ⊢
           have h2':q=true:=by cases q<;>simp[h1]at hpq ⊢
           subst h1;subst h2';rw[ih ys hq]
           have:bitsB b a=some true:=by
            unfold bitsB at hp ⊢;split at hp
            .grind
            .simp only[zaf]at hp;simp[MapKept.bytes_beq]at hp ⊢;rw[hp]
            .grind
            .cases hp
           rw[this];rfl
      obtain⟨e1,e2⟩:=zEv 9999 hsym;show Instr.sameBits (9999+1) _ _=true;simp only[Instr.sameBits,zaU]
      simp_all
   have main:∀(es:aS) (en:List MapEntry) (o:aZ) (s:Nat),First P t (.agg cs) es o->en.length=es.length->(∀(i:Nat) (ka va:AV) (e:MapEntry),es[i]?=some [ka,va]->en[i]?=some e->CRel S w ka e.key)->∃q,(Instr.findAsking t (.agg xs.toArray) en s).run P w'=.ok q w'/\(match o with
      |none=>q=none
      |some j=>∃e,en[j]?=some e/\q=some (s+j,e.val)/\Instr.sameBits 10000 e.key (.agg xs.toArray)=true):=by
    intro es
    induction es with
    |nil =>
      intro en o s hF hl _;have:en=[]:=zd6.1 (by simpa using hl);subst this
      cases o with
      |none=>exact⟨none,by simp[Instr.findAsking],rfl⟩
      |some j=>obtain⟨⟨ka,va,h,_⟩,_⟩:=hF;simp at h
    |cons c0 es ih =>
      intro en o s hF hl hk
      cases en with
      |nil=>simp at hl
      |cons e en =>
        have hk':∀(i:Nat) (ka va:AV) (e:MapEntry),es[i]?=some [ka,va]->en[i]?=some e->CRel S w ka e.key:=λi ka va e h1 h2=>hk (i+1) ka va e (by simpa using h1) (by simpa using h2)
        cases o with
        |none=>obtain⟨ka,va,rfl,he⟩:=hF c0 (by simp);obtain⟨r1,_⟩:=run1 ka false e.key w' he (hk 0 _ va e rfl rfl);obtain⟨q,h1,h2⟩:=ih en none (s+1) (λc hc=>hF c (by simp[hc])) (by simpa using hl) hk';exact⟨q,by simp only[zK,Instr.findAsking,Sem.run_bind,r1,Result.andThen_ok];exact h1,h2⟩
        |some j =>
          cases j with
          |zero=>obtain⟨⟨ka,va,h1,he⟩,_⟩:=hF;simp only[zbI,zaf]at h1;subst h1;obtain⟨r1,r2⟩:=run1 ka true e.key w' he (hk 0 _ va e rfl rfl);exact⟨some (s,e.val),by simp only[Instr.findAsking,Sem.run_bind,r1,Result.andThen_ok,if_true,Sem.run_pure],e,rfl,rfl,r2 rfl⟩
          |succ j =>
            obtain⟨⟨ka,va,h1,he⟩,h3⟩:=hF;obtain⟨k0,v0,g1,g2⟩:=h3 0 (by omega);simp only[zbI,zaf]at g1;subst g1;obtain⟨r1,_⟩:=run1 k0 false e.key w' g2 (hk 0 _ v0 e rfl rfl);obtain⟨q,h1',h2'⟩:=ih en (some j) (s+1) ⟨⟨ka,va,by simpa using h1,he⟩,λi hi=>by grind⟩ (by simpa using hl) hk';refine⟨q,by simp only[zK,Instr.findAsking,Sem.run_bind,r1,Result.andThen_ok];exact h1',?_⟩
            grind
   obtain⟨q,h1,h2⟩:=main es en o 0 hF hlen hk;refine⟨q,?_,?_⟩
   .rw[run_findKey_eq w' hwide];exact h1
   grind
 .cases hkey
def zLN{t:TypeId}{a:AV}(h:zeroA P t=some a)(w:World):∃z,(zeroValue t).run P w=.ok z w/\CRel S w a z:=by
 unfold zeroA at h
 cases hi:P.info? t with
 |none=>simp[hi]at h
 |some i =>
   cases hz:i.zero with
   |none=>simp[hi,hz]at h
   |some z =>
     simp only[hi,zad,hz]at h;refine⟨z,zh5 hi hz,?_⟩
     have nrmC:∀{a:AV} {x:Value},CRel S w a x->CRel S w (nrm P t a) x:=by
      intro a x hr;unfold nrm;split
      . rename_i cs
        cases hr with
        |agg _ vs hl h1 hp =>
          refine .agg _ vs (by rw[zlD];exact hl) h1 (λj c x hj hx=>?_);obtain⟨a,ha,hc⟩:=zsD P _ _ j c hj;rcases hc with rfl|⟨t',rfl⟩
          .exact hp j _ x ha hx
          .exact ztd (hp j _ x ha hx)
      .exact ztd hr
     split at h
     . rename_i cs heq;simp only[zaf]at heq;subst heq;split at h
       .rename_i h1;simp only[zaf]at h;subst h;obtain⟨c1,c2,c3⟩:=zmY (z:=.agg cs) (S:=S) (w:=w) h1;exact nrmC (.agg _ _ c1 c2 c3)
       .cases h
     . rename_i x hne heq;simp only[zaf]at heq;subst heq;split at h
       .simp only[zaf]at h;subst h;exact nrmC (.v _)
       .cases h
     simp_all
def zGA{L:aK}{m:AV}{x:Value}{es:aS}(h:mesOf L m=some es)(hx:VRel S κ D w m x)(hL:∀b ent,L b=some ent->EntAt S κ D w (κ b) ent):(x=.map none/\es=[])\/∃g en clock,x=.map (some g)/\w.heap[g]?=some (.map en clock)/\en.size=es.length/\(∀cs∈es,∃k v,cs=[k,v])/\∀(i:Nat) (k v:AV) (e:MapEntry),es[i]?=some [k,v]->en[i]?=some e->CRel S w k e.key/\CRel S w v e.val:=by
 unfold mesOf at h;split at h
 .simp only[zaf]at h;exact .inl ⟨hx.v_inv,h.symm⟩
 . simp only[zaf]at h;subst h;have:=hx.mp_inv
   cases this with
   |mp _ g en clock hS hg hl hb hi h2 hk hv=>grind
 . rename_i b;split at h
   case h_2=>cases h
   rename_i ent hl;split at h
   case isFalse=>cases h
   rename_i hz;simp only[zaf]at h;subst h;obtain⟨g,c,hd,hk,rfl⟩:=hx.map_inv;obtain⟨g',c',en,clock,hk',hn,hg,hlen,h1,h2,h3,h4⟩:=(hL b ent hl).2 (zxU hz.1 hz.2)
   grind
 .cases h
def mres_rel{ok b:Bool}{a:AV}{x:Value}(h:CRel S w a x):VRel S κ D w (mres ok a b) (if ok then .tuple #[x,.bool b]else x):=by
 unfold mres
 cases ok with
 |false=>exact .c h
 |true =>
   refine .c (.tup _ _ rfl (λj c y hj hy=>?_))
   match j with
   |0=>simp_all
   |1=>simp at hj hy;subst hj;subst hy;exact .v _
   |j+2=>simp at hj
def zJh{L:aK}{t:TypeId}{m k:AV}{ok:Bool}{r:Res}{vm vk:Value}(h:aMLook P L t m k ok=some r)(hm:VRel S κ D w m vm)(hk:VRel S κ D w k vk)
  (hL:∀b ent,L b=some ent->EntAt S κ D w (κ b) ent):∃y,(Instr.lookup t vm vk ok).run P w=.ok y w/\VRel S κ D w r.val y/\r.set=[]/\r.kill=none/\r.frz=[]/\r.re=[]:=by
 unfold aMLook at h;split at h
 case h_2=>cases h
 rename_i kt et hu;split at h
 case h_2=>cases h
 rename_i es z hes hz;split at h
 case isFalse=>cases h
 rename_i hkey;obtain⟨zv,hz1,hz2⟩:=zLN (S:=S) hz w
 obtain⟨en,hen,hrel⟩:∃en:Array MapEntry,(vm=.map none/\en=#[]\/∃g clock,vm=.map (some g)/\w.heap[g]?=some (.map en clock))/\en.size=es.length/\∀(i:Nat) (k v:AV) (e:MapEntry),es[i]?=some [k,v]->en[i]?=some e->CRel S w k e.key/\CRel S w v e.val:=by
  rcases zGA hes hm hL with⟨rfl,rfl⟩|⟨g,en,clock,rfl,hg,hl,_,h4⟩
  .simp_all
  grind
 have hlook:∀q,(Instr.findKey kt vk en.toList).run P w=.ok q w->(Instr.lookup t vm vk ok).run P w=.ok (match q with
   |some (_,v)=>if ok then .tuple #[v,.bool true]else v
   |none=>if ok then .tuple #[zv,.bool false]else zv) w:=by
  intro q hq;have hc:=zxj hkey hk en.isEmpty w;rcases hen with⟨rfl,rfl⟩|⟨g,clock,rfl,hg⟩
  . simp only[Instr.lookup,Sem.run_bind,run_underlying hu,Result.andThen_ok,Sem.run_pure,hc,hq]
    cases q with
    |none=>simp[hz1]
    |some p=>simp
  . simp only[Instr.lookup,Sem.run_bind,run_underlying hu,Result.andThen_ok,MapKept.run_getObj_map hg,Sem.run_pure,hc,hq]
    cases q with
    |none=>simp[hz1]
    |some p=>simp
 split at h
 . rename_i a hml;simp only[zaf]at h;subst h;rcases zyF hml with⟨h1,_⟩|⟨j,ka,va,h1,h2,h3⟩
   .cases h1
   .simp only[zaf]at h1;subst h1;obtain⟨q,q1,e,q2,q3,_⟩:=zsA h3 hk (zcX.trans hrel.1) (λi ka va e h1 h2=>(hrel.2 i ka va e h1 (by simpa using h2)).1) hkey w;subst q3;exact⟨_,hlook _ q1,mres_rel (hrel.2 j ka a e h2 (by simpa using q2)).2,rfl,rfl,rfl,rfl⟩
 . rename_i hml;simp only[zaf]at h;subst h;rcases zyF hml with⟨_,h2⟩|⟨j,ka,va,h1,_,_⟩
   .obtain⟨q,q1,q2⟩:=zsA h2 hk (zcX.trans hrel.1) (λi ka va e h1 h2=>(hrel.2 i ka va e h1 (by simpa using h2)).1) hkey w;simp only at q2;subst q2;exact⟨_,hlook _ q1,mres_rel hz2,rfl,rfl,rfl,rfl⟩
   .cases h1
 .cases h
def zKN{L:aK}{t ty:TypeId}{m:AV}{r:Res}{vm:Value}{k e:TypeId}(hu:P.underlying t=some (.map k e))(h:aMLen L m=some r)(hm:VRel S κ D w m vm)
  (hL:∀b ent,L b=some ent->EntAt S κ D w (κ b) ent):∃y,(Builtin.len_ #[t] ty #[vm]).run P w=.ok y w/\VRel S κ D w r.val y/\r.set=[]/\r.kill=none/\r.frz=[]/\r.re=[]:=by
 unfold aMLen at h;split at h
 case h_2=>cases h
 rename_i es hes;simp only[zaf]at h;subst h;rcases zGA hes hm hL with⟨rfl,rfl⟩|⟨g,en,clock,rfl,hg,hl,_,_⟩
 .exact⟨.int .i64 0,by simp[Builtin.len_,run_underlying hu,goInt],.c (.v _),rfl,rfl,rfl,rfl⟩
 .exact⟨.int .i64 es.length,by simp[Builtin.len_,run_underlying hu,goInt,MapKept.run_getObj_map hg,hl],.c (.v _),rfl,rfl,rfl,rfl⟩
def zJj{t:TypeId}{d:Nat}{r:Res}(hS:∀g,S g->g<w.heap.size)(hd:¬D d)(h:aMkMap P d t=some r):∃y w' κ',(Instr.makeMap t none).run P w=.ok y w'/\EffAt S κ D w S κ' r y w'/\r.frz=[]:=by
 unfold aMkMap at h;split at h
 case h_2=>cases h
 simp only[zaf]at h;subst h;have hold:∀g,g<w.heap.size->(w.alloc (.map #[] 0)).heap[g]?=w.heap[g]?:=λg hg=>Below.heap_alloc w _ g hg
 refine⟨.map (some w.heap.size),w.alloc (.map #[] 0),λb=>if b=d then some (w.heap.size,0)else κ b,?_,?_,rfl⟩
 .simp[Instr.makeMap]
 .exact{
    os:=rfl
    tape:=rfl
    output:=.of
    size:=by simp
    blk:=λg hg _=>hold g hg
    sup:=λ_ h=>h
    snew:=λ_ h=>.inl h
    slt:=λg hg=>by grind
    sfrz:=λb hb=>by cases hb
    kold:=λb hb _=>if_neg (λe=>hd (by subst e;exact hb))
    kout:=λb hb=>if_neg (λe=>hb (by simp[ids,e]))
    knew:=λb _ hb g c' h=>by
     simp[ids]at hb
     simp_all
    one:=λb b' _ _ h1 h2 _ _ _ _ _=>by simp[ids]at h1 h2;rw[h1,h2]
    res:=λb hb=>by cases hb
    ents:=λb e hb=>by simp at hb;obtain⟨rfl,rfl⟩:=hb;refine EntAt.ofMap rfl rfl ⟨w.heap.size,0,#[],0,by simp,λh=>by have:=hS _ h;omega,heap_alloc_new w _,rfl,by simp,by simp,by simp,by simp⟩
    val:=.map d w.heap.size 0 (.inr (by simp[ids])) (by simp) }
def EffAt.mapSet{b g c:Nat}{ent:Ent}{es:aS}{cur:Obj}{en:Array MapEntry}{clock:Nat}{fz:aO}{val:AV}{y:Value}(hS:∀g,S g->g<w.heap.size)(hd:D b)(hκ:κ b=some (g,c))
  (h0:ent.z=0) (hbx:ent.box=false) (hg:w.heap[g]?=some cur) (hnS:¬S g) (hfz:∀b'∈fz,D b'/\b'≠b) (hfl:∀b'∈fz,∀g' c',κ b'=some (g',c')->g'<w.heap.size)
  (hinj:∀b b' g c c',D b->D b'->κ b=some (g,c)->κ b'=some (g,c')->b=b')
  (hlen:en.size=es.length) (h1:∀(i:Nat) (e:MapEntry),en[i]?=some e->e.born<clock) (h2:∀(i j:Nat) (e f:MapEntry),i<j->en[i]?=some e->en[j]?=some f->e.born<f.born) (h3:∀cs∈es,∃k v,cs=[k,v])
  (h4:∀(i:Nat) (k v:AV) (e:MapEntry),es[i]?=some [k,v]->en[i]?=some e->CRel (λg'=>S g'\/∃b' c',b'∈fz/\κ b'=some (g',c')) w k e.key/\CRel (λg'=>S g'\/∃b' c',b'∈fz/\κ b'=some (g',c')) w v e.val)
  (hv:∀(S':Nat->Prop) (κ':Kap) (D':Nat->Prop) (w':World),VRel S' κ' D' w' val y):EffAt S κ D w (λg'=>S g'\/∃b' c',b'∈fz/\κ b'=some (g',c')) κ { val:=val,set:=[(b,{ ent with es:=es })],frz:=fz } y { w with heap:=w.heap.setIfInBounds g (.map en clock) }:=by
 have hset:=MapKept.heap_set (w:=w) (o':=.map en clock) hg
 have hne:∀g',(S g'\/∃b' c',b'∈fz/\κ b'=some (g',c'))->g'≠g:=by
  intro g' h e;subst e;rcases h with h|⟨b',c',hb,hk⟩
  .exact hnS h
  .grind
 exact{
  os:=rfl
  tape:=rfl
  output:=.of
  size:=by simp
  blk:=λg' _ hb=>hset.2 g' (λe=>hb b c (.inl (by simp[ids])) hd (by rw[e];exact hκ))
  sup:=λ_ h=>.inl h
  snew:=λg' h=>by grind
  slt:=λg' h=>by grind
  sfrz:=λb' hb g' c' hk=>.inr ⟨b',c',hb,hk⟩
  kold:=λ_ _ _=>rfl
  kout:=λ_ _=>rfl
  knew:=λb' h hb=>by
   simp[ids]at hb
   simp_all
  one:=λb' b'' h _ hb=>by
   simp[ids]at hb
   simp_all
  res:=λb hb=>by cases hb
  ents:=λb' e hb=>by simp at hb;obtain⟨rfl,rfl⟩:=hb;refine EntAt.ofMap h0 hbx ⟨g,c,en,clock,hκ,λh=>hne g h rfl,hset.1,hlen,h1,h2,h3,λi k v e hi he=>?_⟩;obtain⟨q1,q2⟩:=h4 i k v e hi he;exact⟨q1.mono (λ_ h=>h) (λg' h=>hset.2 g' (hne g' h)),q2.mono (λ_ h=>h) (λg' h=>hset.2 g' (hne g' h))⟩
  val:=hv _ _ _ _ }
def zCs{L:aK}{t:TypeId}{m k x:AV}{r:Res}{vm vk vx:Value}(hS:∀g,S g->g<w.heap.size)(hDL:∀b,D b↔(L b).isSome=true)
  (hinj:∀b b' g c c',D b->D b'->κ b=some (g,c)->κ b'=some (g,c')->b=b') (h:aMSet P L t m k x=some r) (hm:VRel S κ D w m vm) (hk:VRel S κ D w k vk) (hx:VRel S κ D w x vx)
  (hL:∀b ent,L b=some ent->EntAt S κ D w (κ b) ent):∃w' S',(Instr.mapUpdate t vm vk vx).run P w=.ok () w'/\(∀y,EffAt S κ D w S' κ r y w')/\Dis D r:=by
 unfold aMSet at h;split at h
 case h_2=>cases h
 rename_i kt et hu;split at h
 case h_2=>cases h
 rename_i b;split at h
 case h_2=>cases h
 rename_i ent hl;split at h
 case isFalse=>cases h
 rename_i hc;obtain⟨h0,hbx,hkey,hids⟩:=hc;split at h
 case h_2=>cases h
 rename_i x' hsn;split at h
 case isFalse=>cases h
 split at h
 case h_2=>cases h
 rename_i es hms;simp only[zaf]at h;subst h;obtain⟨g,c,hd,hkb,rfl⟩:=hm.map_inv;obtain⟨g',c',en,clock,hk',hn,hg,hlen,h1,h2,h3,h4⟩:=(hL b ent hl).2 (zxU h0 hbx);rw[hkb]at hk';simp only[zG]at hk';obtain⟨rfl,rfl⟩:=hk'
 have hfz:∀b'∈x.ids L 5,D b'/\b'≠b:=λb' hb=>by have:=zbd.1 hids b' hb;simp only[zaU,bne_iff_ne]at this;exact⟨ids_D hL 5 x vx hx b' hb,this.2⟩
 have hfl:∀b'∈x.ids L 5,∀g' c',κ b'=some (g',c')->g'<w.heap.size:=λb' hb g' c' hk'=>by obtain⟨ent',he'⟩:=zaT.1 ((hDL b').1 (hfz b' hb).1);have:=hL b' ent' he';rw[hk']at this;exact this.lt
 have hxv:CRel (λg'=>S g'\/∃b' c',b'∈x.ids L 5/\κ b'=some (g',c')) w x' vx:=
  zrK hL (λg h=>.inl h) 5 (zuY hx) hsn (λb' hb g c hk=>.inr ⟨b',c,by rw[nrm_ids]at hb;exact hb,hk⟩)
 have hkv:CRel (λg'=>S g'\/∃b' c',b'∈x.ids L 5/\κ b'=some (g',c')) w k vk:=(keyAV_val hkey hk).mono (λg h=>.inl h) (λ_ _=>rfl)
 have h4':∀(i:Nat) (k v:AV) (e:MapEntry),ent.es[i]?=some [k,v]->en[i]?=some e->CRel (λg'=>S g'\/∃b' c',b'∈x.ids L 5/\κ b'=some (g',c')) w k e.key/\CRel (λg'=>S g'\/∃b' c',b'∈x.ids L 5/\κ b'=some (g',c')) w v e.val:=
  λi k v e hi he=>⟨(h4 i k v e hi he).1.mono (λg h=>.inl h) (λ_ _=>rfl),(h4 i k v e hi he).2.mono (λg h=>.inl h) (λ_ _=>rfl)⟩
 have hck:=zxj hkey hk false w;have dis:Dis D { val:=.bot,set:=[(b,{ ent with es:=es })],frz:=x.ids L 5 }:=λb' hb=>⟨(hfz b' hb).1,by simp[ids];exact(hfz b' hb).2,by simp⟩
 rcases zGC hms with⟨hF,rfl⟩|⟨j,hF,rfl⟩
 . obtain⟨q,q1,q2⟩:=zsA hF hk (zcX.trans hlen) (λi ka va e h1 h2=>(h4 i ka va e h1 (by simpa using h2)).1) hkey w;simp only at q2;subst q2;refine⟨{ w with heap:=w.heap.setIfInBounds g (.map (en.push { key:=vk,val:=vx,born:=clock }) (clock+1)) },_,?_,λy=>EffAt.mapSet hS hd hkb h0 hbx hg hn hfz hfl hinj ?_ ?_ ?_ ?_ ?_ (λ_ _ _ _=>.bot y),dis⟩
   .simp only[Instr.mapUpdate,Sem.run_bind,run_underlying hu,Result.andThen_ok,MapKept.run_getObj_map hg,hck,q1,MapKept.run_setObj_map _ hg]
   .simp[hlen]
   .grind
   .grind
   .grind
   grind
 . obtain⟨q,q1,e0,q2,q3,q4⟩:=zsA hF hk (zcX.trans hlen) (λi ka va e h1 h2=>(h4 i ka va e h1 (by simpa using h2)).1) hkey w;subst q3;have q2':en[j]?=some e0:=by simpa using q2
   have hjlt:=(zdd.1 q2').1
   have hgetm:∀(i:Nat) (e:MapEntry),(en.modify j λe=>{ e with key:=vk,val:=vx })[i]?=some e->(i=j/\e={ e0 with key:=vk,val:=vx })\/(i≠j/\en[i]?=some e):=by
    intro i e he;rw[zfv]at he;split at he
    .simp_all
    .grind
   refine⟨{ w with heap:=w.heap.setIfInBounds g (.map (en.modify j λe=>{ e with key:=vk,val:=vx }) clock) },_,?_,λy=>EffAt.mapSet hS hd hkb h0 hbx hg hn hfz hfl hinj ?_ ?_ ?_ ?_ ?_ (λ_ _ _ _=>.bot y),dis⟩
   .simp only[Instr.mapUpdate,Sem.run_bind,run_underlying hu,Result.andThen_ok,MapKept.run_getObj_map hg,hck,q1,Instr.keyThatStays,q2',zcM,zci,q4,if_true,Sem.run_pure,MapKept.run_setObj_map _ hg]
   .simp[hlen]
   .grind
   .grind
   .grind
   grind
def zKM{L:aK}{t ty:TypeId}{ts:Array TypeId}{m k:AV}{r:Res}{vm vk:Value}(hS:∀g,S g->g<w.heap.size)
  (hinj:∀b b' g c c',D b->D b'->κ b=some (g,c)->κ b'=some (g,c')->b=b') (hts:ts[0]?=some t) (h:aMDel P L t m k=some r) (hm:VRel S κ D w m vm) (hk:VRel S κ D w k vk)
  (hL:∀b ent,L b=some ent->EntAt S κ D w (κ b) ent):∃y w' S',(Builtin.delete_ ts ty #[vm,vk]).run P w=.ok y w'/\EffAt S κ D w S' κ r y w'/\r.frz=[]:=by
 unfold aMDel at h;split at h
 case h_2=>cases h
 rename_i kt et hu;split at h
 case h_2=>cases h
 rename_i b;split at h
 case h_2=>cases h
 rename_i ent hl;split at h
 case isFalse=>cases h
 rename_i hc;obtain⟨h0,hbx,hkey⟩:=hc;split at h
 case h_2=>cases h
 rename_i es hms;simp only[zaf]at h;subst h;obtain⟨g,c,hd,hkb,rfl⟩:=hm.map_inv;obtain⟨g',c',en,clock,hk',hn,hg,hlen,h1,h2,h3,h4⟩:=(hL b ent hl).2 (zxU h0 hbx);rw[hkb]at hk';simp only[zG]at hk';obtain⟨rfl,rfl⟩:=hk'
 have h4':∀(i:Nat) (k v:AV) (e:MapEntry),ent.es[i]?=some [k,v]->en[i]?=some e->CRel (λg'=>S g'\/∃b' c',b'∈([]:List Nat)/\κ b'=some (g',c')) w k e.key/\CRel (λg'=>S g'\/∃b' c',b'∈([]:List Nat)/\κ b'=some (g',c')) w v e.val:=
  λi k v e hi he=>⟨(h4 i k v e hi he).1.mono (λg h=>.inl h) (λ_ _=>rfl),(h4 i k v e hi he).2.mono (λg h=>.inl h) (λ_ _=>rfl)⟩
 have hck:=zxj hkey hk en.isEmpty w;have hv:∀(S':aD) (κ':Kap) (D':aD) (w':World),VRel S' κ' D' w' (.tup []) (.tuple #[]):=λ_ _ _ _=>.c (.tup [] #[] rfl (λj c x hj=>by simp at hj))
 rcases zGy hms with⟨hF,rfl⟩|⟨j,hF,rfl⟩
 .obtain⟨q,q1,q2⟩:=zsA hF hk (zcX.trans hlen) (λi ka va e h1 h2=>(h4 i ka va e h1 (by simpa using h2)).1) hkey w;simp only at q2;subst q2;refine⟨.tuple #[],{ w with heap:=w.heap.setIfInBounds g (.map en clock) },_,?_,EffAt.mapSet (fz:=[]) hS hd hkb h0 hbx hg hn (by simp) (by simp) hinj hlen h1 h2 h3 h4' hv,rfl⟩;simp[Builtin.delete_,hts,run_underlying hu,MapKept.run_getObj_map hg,-Array.isEmpty_iff,hck,q1,MapKept.run_setObj_map _ hg]
 . obtain⟨q,q1,e0,q2,q3,q4⟩:=zsA hF hk (zcX.trans hlen) (λi ka va e h1 h2=>(h4 i ka va e h1 (by simpa using h2)).1) hkey w;subst q3;have q2':en[j]?=some e0:=by simpa using q2
   have hjlt:=(zdd.1 q2').1
   have hgetm:∀(i:Nat),(en.eraseIdxIfInBounds j)[i]?=if i<j then en[i]? else en[i+1]?:=by intro i;rw[Array.eraseIdxIfInBounds,dif_pos hjlt,<-zfw,Array.toList_eraseIdx,List.getElem?_eraseIdx];simp
   refine⟨.tuple #[],{ w with heap:=w.heap.setIfInBounds g (.map (en.eraseIdxIfInBounds j) clock) },_,?_,EffAt.mapSet (fz:=[]) hS hd hkb h0 hbx hg hn (by simp) (by simp) hinj ?_ ?_ ?_ ?_ ?_ hv,rfl⟩
   .simp[Builtin.delete_,hts,run_underlying hu,MapKept.run_getObj_map hg,-Array.isEmpty_iff,hck,q1,MapKept.run_setObj_map _ hg]
   .grind
   . intro i e he;rw[hgetm]at he;split at he
     .exact h1 i e he
     grind
   . intro i i' e f hij he hf;rw[hgetm]at he hf;split at he<;>split at hf
     .grind
     .grind
     .omega
     grind
   .intro cs hcs;exact h3 cs (List.mem_of_mem_eraseIdx hcs)
   . intro i k1 v1 e hi he;rw[List.getElem?_eraseIdx]at hi;rw[hgetm]at he;split at hi
     .grind
     grind
end
end
section
variable[Dr]
section
variable{P:Program}{S:aD}{κ:Kap}{D:aD}{w:World}{L:aK}
def zGK:∀(cs:aN) (q:Nat) (cs':aN) (nms:Mem) (nbk:ac),nest L q cs=some (cs',nms,nbk)->cs'.length=cs.length/\nbk.map (·.2)=nms.map (·.1)/\(∀p∈nbk,q<=p.2/\p.2<950/\p.1<1000/\(L p.1).isSome=true)/\(nbk.map (·.1)).Nodup/\(nbk.map (·.2)).Nodup/\(∀p∈nms,∃c,(c,p.1)∈nbk/\L c=some p.2/\p.2.box=false)/\∀(S S':aD) (κ κ':Kap) (D D':aD) (w:World),(∀g,S g->S' g)->(∀p∈nbk,D' p.2/\κ' p.2=κ p.1)->∀(j:Nat) (a a':AV) (x:Value),cs[j]?=some a->cs'[j]?=some a'->VRel S κ D w a x->VRel S' κ' D' w a' x:=by
 intro cs
 induction cs with
 |nil =>
   intro q cs' nms nbk h;simp[nest]at h
   simp_all
 |cons a r ih =>
   intro q cs' nms nbk h
   have one:∀(c:Nat) (ent:Ent) (av:AV) (cs0:aN) (nms0:Mem) (nbk0:ac),nest L (q+1) r=some (cs0,nms0,nbk0)->L c=some ent->ent.box=false->c<1000->q<950->nbk0.all (λp=>p.1≠c)=true->(∀(S S':aD) (κ κ':Kap) (D D':aD) (w:World) (x:Value),D' q->κ' q=κ c->VRel S κ D w a x->VRel S' κ' D' w av x)->cs'=av::cs0->nms=(q,ent)::nms0->nbk=(c,q)::nbk0->cs'.length=(a::r).length/\nbk.map (·.2)=nms.map (·.1)/\(∀p∈nbk,q<=p.2/\p.2<950/\p.1<1000/\(L p.1).isSome=true)/\(nbk.map (·.1)).Nodup/\(nbk.map (·.2)).Nodup/\(∀p∈nms,∃c,(c,p.1)∈nbk/\L c=some p.2/\p.2.box=false)/\∀(S S':aD) (κ κ':Kap) (D D':aD) (w:World),(∀g,S g->S' g)->(∀p∈nbk,D' p.2/\κ' p.2=κ p.1)->∀(j:Nat) (a0 a':AV) (x:Value),(a::r)[j]?=some a0->cs'[j]?=some a'->VRel S κ D w a0 x->VRel S' κ' D' w a' x:=by
    intro c ent av cs0 nms0 nbk0 hr hl hb hc hq hall hv e1 e2 e3;obtain⟨i1,i2,i3,i4,i5,i6,i7⟩:=ih (q+1) cs0 nms0 nbk0 hr;subst e1;subst e2;subst e3;refine⟨by simp[i1],by simp[i2],λp hp=>?_,?_,?_,λp hp=>?_,λS S' κ κ' D D' w hS hk j a0 a' x h1 h2 h3=>?_⟩
    .grind
    .grind
    .grind
    .grind
    . cases j with
      |zero =>
        simp at h1 h2;subst h1;subst h2;have:=hk (c,q) zdy
        grind
      |succ j=>exact i7 S S' κ κ' D D' w hS (λp hp=>hk p (zbG _ hp)) j a0 a' x (by simpa using h1) (by simpa using h2) h3
   simp only[nest]at h;split at h
   . rename_i hC;split at h
     case h_2=>cases h
     rename_i cs0 ms0 bk0 hr;simp only[zG]at h;obtain⟨rfl,rfl,rfl⟩:=h;obtain⟨i1,i2,i3,i4,i5,i6,i7⟩:=ih q _ _ _ hr;refine⟨by simp[i1],i2,i3,i4,i5,i6,λS S' κ κ' D D' w hS hk j a0 a' x h1 h2 h3=>?_⟩
     cases j with
     |zero=>simp at h1 h2;subst h1;subst h2;exact .c ((zkX 4 hC h3).mono hS (λ_ _=>rfl))
     |succ j=>grind
   . split at h
     . rename_i c z n _;split at h
       case h_2=>cases h
       rename_i ent cs0 ms0 bk0 hl hr;split at h
       case isFalse=>cases h
       rename_i hc;obtain⟨hz,hb,hzp,hn,hc1,hq,hall⟩:=hc;simp only[zG]at h;obtain⟨e1,e2,e3⟩:=h;refine one c ent _ cs0 ms0 bk0 hr hl hb hc1 hq hall ?_ e1.symm e2.symm e3.symm;intro S S' κ κ' D D' w x hd hk hv
       cases hv with
       |c h=>cases h
       |row0 _ _ hd' hk'=>exact .row0 q z hd (hk.trans hk')
       |row _ _ _ _ g cc off' cap hd' hk' hn ho hcc=>exact .row q z 0 n g cc off' cap hd (hk.trans hk') hn ho hcc
     . rename_i c _;split at h
       case h_2=>cases h
       rename_i ent cs0 ms0 bk0 hl hr;split at h
       case isFalse=>cases h
       rename_i hc;obtain⟨hz,hb,hc1,hq,hall⟩:=hc;simp only[zG]at h;obtain⟨e1,e2,e3⟩:=h;refine one c ent _ cs0 ms0 bk0 hr hl hb hc1 hq hall ?_ e1.symm e2.symm e3.symm;intro S S' κ κ' D D' w x hd hk hv;obtain⟨g,cc,hd',hk',rfl⟩:=hv.map_inv;exact .map q g cc hd (hk.trans hk')
     .cases h
def zBn{bk:ac}:∀(cs cs':aN),zye bk cs=some cs'->cs'.length=cs.length/\∀(S:aD) (κ κ':Kap) (D D':aD) (w:World),(∀p∈bk,D' p.1/\κ' p.1=κ p.2)->∀(j:Nat) (a a':AV) (x:Value),cs[j]?=some a->cs'[j]?=some a'->VRel S κ D w a x->VRel S κ' D' w a' x
 |[],cs',h=>by simp[zye]at h;subst h;simp
 |a::r,cs',h=>by
   simp only[zye]at h;split at h
   .cases h
   . rename_i cs0 hr;obtain⟨i1,i2⟩:=zBn r cs0 hr
     have one:∀av:AV,cs'=av::cs0->(∀(S:aD) (κ κ':Kap) (D D':aD) (w:World) (x:Value),(∀p∈bk,D' p.1/\κ' p.1=κ p.2)->VRel S κ D w a x->VRel S κ' D' w av x)->cs'.length=(a::r).length/\∀(S:aD) (κ κ':Kap) (D D':aD) (w:World),(∀p∈bk,D' p.1/\κ' p.1=κ p.2)->∀(j:Nat) (a0 a':AV) (x:Value),(a::r)[j]?=some a0->cs'[j]?=some a'->VRel S κ D w a0 x->VRel S κ' D' w a' x:=by
      intro av e hv;subst e;refine⟨by simp[i1],λS κ κ' D D' w hk j a0 a' x h1 h2 h3=>?_⟩
      cases j with
      |zero=>grind
      |succ j=>grind
     split at h
     .rename_i hC;injection h with h;exact one a h.symm (λS κ κ' D D' w x _ hv=>.c (zkX 4 hC hv))
     . split at h
       . rename_i q z n _;split at h
         case h_2=>cases h
         rename_i p hf;injection h with h;have hp:=zcG hf;have hq:p.2=q:=by simpa using zel hf
         refine one _ h.symm (λS κ κ' D D' w x hk hv=>?_);obtain⟨k1,k2⟩:=hk p hp;rw[hq]at k2
         cases hv with
         |c h=>cases h
         |row0 _ _ hd' hk'=>exact .row0 p.1 z k1 (k2.trans hk')
         |row _ _ _ _ g cc off' cap hd' hk' hn ho hcc=>exact .row p.1 z 0 n g cc off' cap k1 (k2.trans hk') hn ho hcc
       . rename_i q _;split at h
         case h_2=>cases h
         rename_i p hf;injection h with h;have hp:=zcG hf;have hq:p.2=q:=by simpa using zel hf
         refine one _ h.symm (λS κ κ' D D' w x hk hv=>?_);obtain⟨k1,k2⟩:=hk p hp;rw[hq]at k2;obtain⟨g,cc,hd',hk',rfl⟩:=hv.map_inv;exact .map p.1 g cc k1 (k2.trans hk')
       .cases h
def zyl{ms:Mem}:∀(bk:ac) (back:ah),backN ms bk=some back->ids back=bk.map (·.1)/\∀p∈back,∃q,(p.1,q)∈bk/\look ms q=some p.2/\p.2.box=false
 |[],back,h=>by simp[backN]at h;subst h;simp[ids]
 |(c,q)::r,back,h=>by
   simp only[backN]at h;split at h
   . rename_i ent l hl hr;split at h
     case isFalse=>cases h
     rename_i hb;injection h with h;subst h;obtain⟨h1,h2⟩:=zyl r l hr;refine⟨by simp[ids]at h1 ⊢;exact h1,λp hp=>?_⟩
     grind
   .cases h
def zED(hL:∀b ent,L b=some ent->EntAt S κ D w (κ b) ent){k0:Nat}{x0:AV}:∀(args:aN) (k:Nat) (bc:aN) (fz:aO),dArgs L k0 x0 k args=some (bc,fz)->∀vals:List Value,vals.length=args.length->(∀(j:Nat) (a:AV) (x:Value),args[j]?=some a->vals[j]?=some x->VRel S κ D w a x)->bc.length=args.length/\(∀b∈fz,D b)/\(∀j a,j+k=k0->bc[j]?=some a->a=x0)/\∀(S':aD) (κ':Kap) (D':aD),(∀g,S g->S' g)->(∀b∈fz,∀g c,κ b=some (g,c)->S' g)->∀(j:Nat) (a:AV) (x:Value),j+k≠k0->bc[j]?=some a->vals[j]?=some x->VRel S' κ' D' w a x
 |[],k,bc,fz,h,vals,_,_=>by
   simp[dArgs]at h
   simp_all
 |a::r,k,bc,fz,h,[],hl,_=>by simp at hl
 |a::r,k,bc,fz,h,x::vals,hl,hv=>by
   simp only[dArgs]at h;split at h
   .cases h
   . rename_i as0 fz0 hr;obtain⟨i1,i2,i3,i4⟩:=zED hL r (k+1) as0 fz0 hr vals (by simpa using hl) (λj a x hj hx=>hv (j+1) a x (by simpa using hj) (by simpa using hx));split at h
     .grind
     . rename_i hk;split at h
       case h_2=>cases h
       rename_i a' hs;simp only[zG]at h;obtain⟨rfl,rfl⟩:=h;have hax:=hv 0 a x rfl rfl;refine⟨by simp[i1],λb hb=>?_,λj b hj hb=>?_,λS' κ' D' hS hf j b y hj hb hy=>?_⟩
       . rcases zaX.1 hb with h|h
         .exact ids_D hL 5 a x hax b h
         .exact i2 b h
       .grind
       . cases j with
         |zero=>simp at hb hy;subst hb;subst hy;exact .c (zrK hL hS 5 hax hs (λb hb=>hf b (List.mem_append_left _ hb)))
         |succ j=>grind
def box_ren{S S':aD}{κ κ':Kap}{D D':aD}{w:World}{kb:ag}{ent:Ent}{cs cs':aN}(h:EntAt S κ D w kb ent)(hb:ent.box=true)(he:ent.es=[cs])(hl:cs'.length=cs.length)
  (hn:∀g c,kb=some (g,c)->¬S' g) (hv:∀(j:Nat) (a a':AV) (x:Value),cs[j]?=some a->cs'[j]?=some a'->VRel S κ D w a x->VRel S' κ' D' w a' x):EntAt S' κ' D' w kb { ent with es:=[cs'] }:=by
 obtain⟨q1,q2⟩:=h.1 (.inl hb);refine EntAt.of (.inl hb) ⟨λx hx=>?_,?_⟩
 .simp_all
 . cases kb with
   |none=>simp_all
   |some gc =>
     obtain⟨g,c⟩:=gc;obtain⟨cells,c1,c2,c3,c4,c5,c6⟩:=q2;refine⟨cells,c1,c2,by simp_all,c4,hn g c rfl,λi j xs a hi hj=>?_⟩
     have hi0:i=0/\xs=cs':=by
      cases i with
      |zero=>simp_all
      |succ i=>simp at hi
     obtain⟨rfl,rfl⟩:=hi0;have hlt:j<cs.length:=by have:=(zal.1 hj).1;omega
     obtain⟨u,u1,u2,u3,_⟩:=c6 0 j cs cs[j] (by rw[he];rfl) (zaa hlt)
     grind
def zA4:∀(l:ac),(l.map (·.1)).Nodup->∀x y z,(x,y)∈l->(x,z)∈l->y=z:=by
 intro l hn
 induction l with
 |nil=>intro x y z h;cases h
 |cons q l ihl=>grind
def pair_inj2:∀(l:ac),(l.map (·.2)).Nodup->∀x y z,(x,z)∈l->(y,z)∈l->x=y:=by
 intro l hn
 induction l with
 |nil=>intro x y z h;cases h
 |cons q l ihl=>grind
def zKL{call:zcR}(hcall:CallOK P call){f:FuncId}{k0:Nat}{args:aN}{r:Res}{vals:aV}
  (hS:∀g,S g->g<w.heap.size) (hk:Dr.ok S w) (hDL:∀b,D b↔(L b).isSome=true) (hinj:∀b b' g c c',D b->D b'->κ b=some (g,c)->κ b'=some (g,c')->b=b')
  (hL:∀b ent,L b=some ent->EntAt S κ D w (κ b) ent) (h:aDeep call L f k0 args=some r) (hl:vals.size=args.length)
  (hv:∀(j:Nat) (a:AV) (x:Value),args[j]?=some a->vals[j]?=some x->VRel S κ D w a x):enters P f=true/\Calls P f vals w λe w'=>∃x S' κ',e=.returned x/\EffAt S κ D w S' κ' r x w'/\∀b∈r.frz,D b/\b ∉ ids r.set/\r.kill≠some b:=by
 unfold aDeep at h;split at h
 case h_2=>cases h
 rename_i b z hk0;split at h
 case h_2=>cases h
 rename_i ent hlb;split at h
 case isFalse=>cases h
 split at h
 case h_2=>cases h
 rename_i cs hes;split at h
 case h_2=>cases h
 rename_i cs' nms nbk bc fz hnest hda;split at h
 case isFalse=>cases h
 rename_i hcond;obtain⟨hz,hbx,hnb,hfz⟩:=hcond;split at h
 case h_2=>cases h
 rename_i rv ms' hc;obtain⟨n1,n2,n3,n4,n5,n6,n7⟩:=zGK cs 900 cs' nms nbk hnest;obtain⟨d1,d2,d3,d4⟩:=zED (S:=S) (κ:=κ) (D:=D) (w:=w) hL args 0 bc fz hda vals.toList (by simpa using hl) (λj a x hj hx=>hv j a x hj (by simpa using hx));obtain⟨hen,hcalls⟩:=hcall f bc _ rv ms' hc;refine⟨hen,?_⟩;have hDb:D b:=(hDL b).2 (by simp[hlb]);have hDn:∀p∈nbk,D p.1:=λp hp=>(hDL p.1).2 (n3 p hp).2.2.2
 have hnb':∀p∈nbk,p.1≠b:=λp hp=>by simpa using zbd.1 hnb p hp
 have hfz':∀c∈fz,c≠b/\∀p∈nbk,p.1≠c:=λc hc=>by have h1:=zbd.1 hfz c hc;simp only[zO,bne_iff_ne]at h1;exact⟨h1.2.1,λp hp=>by simpa using zbd.1 h1.2.2 p hp⟩
 let ms:Mem:=(1000,{ ent with es:=[cs'] })::nms
 let κi:Kap:=λk=>if k=1000 then κ b else kapOf κ nbk k
 let Sc:Nat->Prop:=λg=>S g\/∃b c,b∈fz/\κ b=some (g,c)
 have hq:∀p∈nbk,p.2≠1000:=λp hp=>by have:=(n3 p hp).2.1;omega
 have hκb:κi 1000=κ b:=if_pos rfl
 have hκn:∀p∈nbk,κi p.2=κ p.1:=λp hp=>by show(if p.2=1000 then _ else _)=_;rw[if_neg (hq p hp),zlA n5 p hp]
 have hDi:Dm ms 1000:=by show(look ms 1000).isSome=true;simp[ms,look]
 have hDin:∀p∈nbk,Dm ms p.2:=λp hp=>by
  refine zlB ?_;have:p.2∈nms.map (·.1):=by rw[<-n2];exact zbf.2 ⟨p,hp,rfl⟩
  simp[ms,ids]at this ⊢;exact .inr this
 have hms:∀k,Dm ms k->(k=1000/\True)\/∃c,(c,k)∈nbk:=λk hk=>by
  obtain⟨e,he⟩:=zaT.1 hk;rcases zat.1 (zoD he)with h1|h1
  .injection h1 with h1 _;exact .inl ⟨h1,trivial⟩
  .obtain⟨c,hc,_⟩:=n6 _ h1;exact .inr ⟨c,hc⟩
 have back:∀k,Dm ms k->∃c,D c/\κi k=κ c/\(c=b\/(c,k)∈nbk)/\(k=1000->c=b):=λk hk=>by
  rcases hms k hk with⟨rfl,-⟩|⟨c,hc⟩
  .exact⟨b,hDb,hκb,.inl rfl,λ_=>rfl⟩
  .exact⟨c,hDn _ hc,hκn _ hc,.inr hc,λe=>absurd e (hq _ hc)⟩
 have hinjI:∀k k' g c c',Dm ms k->Dm ms k'->κi k=some (g,c)->κi k'=some (g,c')->k=k':=λk k' g c c' hk hk' e e'=>by
  rcases hms k hk with⟨rfl,-⟩|⟨q,hq1⟩
  . rcases hms k' hk' with⟨rfl,-⟩|⟨q',hq2⟩
    .rfl
    .rw[hκb]at e;rw[hκn _ hq2]at e';exact absurd (hinj _ _ _ _ _ hDb (hDn _ hq2) e e').symm (hnb' _ hq2)
  . rcases hms k' hk' with⟨rfl,-⟩|⟨q',hq2⟩
    .rw[hκb]at e';rw[hκn _ hq1]at e;exact absurd (hinj _ _ _ _ _ (hDn _ hq1) hDb e e') (hnb' _ hq1)
    .rw[hκn _ hq1]at e;rw[hκn _ hq2]at e';have:=hinj _ _ _ _ _ (hDn _ hq1) (hDn _ hq2) e e';simp only at this;subst this;exact zA4 nbk n4 _ _ _ hq1 hq2
 have hScn:∀c,D c->c ∉ fz->∀g cp,κ c=some (g,cp)->¬Sc g:=λc hc hn g cp hk hs=>by
  rcases hs with hs|⟨b',c',hb',hk'⟩
  .obtain⟨e,he⟩:=zaT.1 ((hDL c).1 hc);have:=hL c e he;rw[hk]at this;exact this.notS hs
  .have:=hinj b' c g c' cp (d2 b' hb') hc hk' hk;subst this;exact hn hb'
 have hbfz:b ∉ fz:=λhm=>(hfz' b hm).1 rfl
 have hnfz:∀p∈nbk,p.1 ∉ fz:=λp hp hm=>(hfz' _ hm).2 p hp rfl
 have hEb:=hL b ent hlb;refine(hcalls w Sc κi vals (by rw[hl,d1]) ?_ (Dr.keep hk (λ_ h=>.inl h) (λ_ _=>rfl)) ?_ ?_ hinjI).mono ?_
 . intro g hg;rcases hg with h|⟨b',c,hb',hk⟩
   .exact hS g h
   .obtain⟨e,he⟩:=zaT.1 ((hDL b').1 (d2 b' hb'));have:=hL b' e he;rw[hk]at this;exact this.lt
 . intro k a x hk hx;by_cases hkk:k=k0
   .subst hkk;have ea:=d3 k a (by omega) hk;subst ea;have hvx:=hv k _ x hk0 hx;obtain⟨g,c,hd,hkb,rfl⟩:=hvx.loc_inv;exact .loc 1000 z 0 0 g c hDi (hκb.trans hkb)
   .exact d4 Sc κi (Dm ms) (λg h=>.inl h) (λb' hb' g c hk'=>.inr ⟨b',c,hb',hk'⟩) k a x (by omega) hk (by simpa using hx)
 . intro k e hk;by_cases hk1:k=1000
   . subst hk1
     have he:e={ ent with es:=[cs'] }:=by simp[look]at hk;exact hk.symm
     subst he;rw[hκb];refine box_ren hEb hbx hes n1 (hScn b hDb hbfz) (λj a a' x h1 h2 h3=>n7 S Sc κ κi D (Dm ms) w (λ_ h=>.inl h) (λp hp=>⟨hDin p hp,hκn p hp⟩) j a a' x h1 h2 h3)
   . have hm:(k,e)∈nms:=by
      rcases zat.1 (zoD hk)with h1|h1
      .injection h1 with h1 _;exact absurd h1 hk1
      .exact h1
     obtain⟨c,hc,hlc,hb0⟩:=n6 _ hm;rw[hκn _ hc];exact(hL c e hlc).handed (λ_ h=>.inl h) (hScn c (hDn _ hc) (hnfz _ hc)) (λhb'=>by rw[hb0]at hb';cases hb')
 . rintro e w' ⟨x,S1,κ1,rfl,hos,htape,hout,hsz,hblk,hsup,hsnew,hslt,hpar,hmine,hinj1,hents,hres⟩
   unfold dRes at h;split at h
   case isFalse=>cases h
   rename_i hflat
   split at h
   case h_2=>cases h
   rename_i ent1 bck hl1 hbn;split at h
   case h_2=>cases h
   rename_i cs1 hb1 he1;split at h
   case h_2=>cases h
   rename_i cs2 hun;injection h with h;subst h;obtain⟨b1,b2⟩:=zyl nbk bck hbn;obtain⟨u1,u2⟩:=zBn cs1 cs2 hun
   have hD':∀p∈nbk,Dm ms' p.2:=λp hp=>by
    have:p.1∈ids bck:=by rw[b1];exact zbf.2 ⟨p,hp,rfl⟩
    obtain⟨q,hq1,hq2⟩:=zbf.1 this;obtain⟨k,hk1,hk2,_⟩:=b2 q hq1;rw[hq2]at hk1;have:=zA4 nbk n4 _ _ _ hk1 hp;rw[<-this];show(look ms' k).isSome=true;rw[hk2];rfl
   have hD1:Dm ms' 1000:=by show(look ms' 1000).isSome=true;rw[hl1];rfl
   let κ2:Kap:=λc=>match nbk.find? (λp=>p.1==c)with
    |some p=>κ1 p.2
    |none=>κ c
   have k2n:∀p∈nbk,κ2 p.1=κ1 p.2:=λp hp=>by
    show(match nbk.find? (λq=>q.1==p.1)with|some q=>κ1 q.2|none=>κ p.1)=_
    cases hf:nbk.find? (λq=>q.1==p.1)with
    |none=>exact absurd (List.find?_eq_none.1 hf p hp) (by simp)
    |some q =>
      have hq1:=zcG hf;have hq2:q.1=p.1:=by simpa using zel hf
      have:q.2=p.2:=zA4 nbk n4 p.1 q.2 p.2 (by rw[<-hq2];exact hq1) hp;show κ1 q.2=κ1 p.2;rw[this]
   have k2o:∀c,c ∉ nbk.map (·.1)->κ2 c=κ c:=λc hc=>by
    show(match nbk.find? (λq=>q.1==c)with|some q=>κ1 q.2|none=>κ c)=_
    cases hf:nbk.find? (λq=>q.1==c)with
    |none=>rfl
    |some q =>
      have hq1:=zcG hf;have hq2:q.1=c:=by simpa using zel hf
      exact absurd (zbf.2 ⟨q,hq1,hq2⟩) hc
   have hbn':b ∉ nbk.map (·.1):=λhm=>by obtain⟨p,hp,e⟩:=zbf.1 hm;exact hnb' p hp e
   have hidset:∀c,c∈ids ((b,({ ent1 with es:=[cs2] }:Ent))::bck)↔c=b\/c∈nbk.map (·.1):=λc=>by rw[<-b1];simp[ids]
   have hMine:∀g,Mine w κi (Dm ms) g->w.heap.size<=g\/∃c cp,c∈nbk.map (·.1)/\D c/\κ c=some (g,cp):=by
    rintro g (h|⟨k,cp,hk1,hk2,hk3⟩)
    .exact .inl h
    . rcases hms k hk2 with⟨rfl,-⟩|⟨c,hc⟩
      .omega
      .rw[hκn _ hc]at hk3;exact .inr ⟨c,cp,zbf.2 ⟨_,hc,rfl⟩,hDn _ hc,hk3⟩
   let r':Res:={ val:=rv,set:=(b,{ ent1 with es:=[cs2] })::bck,frz:=fz,re:=nbk.map (·.1) }
   have hset1:∀c,c=b\/c∈nbk.map (·.1)->D1 D r' c:=λc hc=>.inr ((hidset c).2 hc)
   have hrel:CRel S1 w' rv x:=by
    cases rv with
    |new z e es=>simp[AV.flat]at hflat
    |newp z e cs=>simp[AV.flat]at hflat
    |newm e es=>simp[AV.flat]at hflat
    |row b z off n=>simp[AV.flat]at hflat
    |loc b z i o=>simp[AV.flat]at hflat
    |tup cs=>exact RRel.plain (zLo hflat) hres
    |_=>exact hres
   refine⟨x,S1,κ2,rfl,{
    os:=hos
    tape:=htape
    output:=hout
    size:=hsz
    blk:=λg hg hbb=>hblk g hg (λk cp hk hkk=>by
     obtain⟨c,hc,e1,e2,_⟩:=back k hk;rw[e1]at hkk
     refine hbb c cp (.inl ((hidset c).2 (e2.imp id (λq=>zbf.2 ⟨_,q,rfl⟩)))) hc hkk)
    sup:=λg hg=>hsup g (.inl hg)
    snew:=λg hg=>by
     rcases hsnew g hg with h|h
     . rcases h with h|⟨b',c,hb',hk⟩
       .exact .inl h
       .exact .inr (.inr ⟨b',c,.inl hb',d2 b' hb',hk⟩)
     . rcases hMine g h with h|⟨c,cp,q1,q2,q3⟩
       .exact .inr (.inl h)
       .exact .inr (.inr ⟨c,cp,.inr (.inr q1),q2,q3⟩)
    slt:=hslt
    sfrz:=λb' hb' g c hk=>hsup g (.inr ⟨b',c,hb',hk⟩)
    kold:=λc _ hn=>k2o c hn
    kout:=λc hn=>k2o c (λhm=>hn ((hidset c).2 (.inr hm)))
    knew:=λc hnew hin g cp hk=>by
     have hm:c∈nbk.map (·.1):=by
      rcases(hidset c).1 hin with rfl|hm
      .exact hnew hDb
      .exact hm
     obtain⟨p,hp,rfl⟩:=zbf.1 hm;rw[k2n p hp]at hk;rcases hMine g (hmine p.2 g cp (by have:=(n3 p hp).2.1;omega) (hD' p hp) hk)with h|⟨c,cp,q1,q2,q3⟩
     .exact .inl h
     .exact .inr ⟨c,cp,.inr q1,q2,q3⟩
    one:=λc c' h1 h2 i1 i2 g cp cp' e1 e2=>by
     have m1:c∈nbk.map (·.1):=by
      rcases(hidset c).1 i1 with rfl|hm
      .exact h1 hDb
      .exact hm
     have m2:c'∈nbk.map (·.1):=by
      rcases(hidset c').1 i2 with rfl|hm
      .exact h2 hDb
      .exact hm
     obtain⟨p,hp,rfl⟩:=zbf.1 m1;obtain⟨p',hp',rfl⟩:=zbf.1 m2;rw[k2n p hp]at e1;rw[k2n p' hp']at e2;have:=hinj1 _ _ g cp cp' (hD' p hp) (hD' p' hp') e1 e2;exact pair_inj2 nbk n5 p.1 p'.1 p.2 hp (by rw[this];exact hp')
    res:=λc hc=>(hidset c).2 (.inr hc)
    ents:=λc e hm=>by
     rcases zat.1 hm with hm|hm
     .injection hm with hm1 hm2;subst hm1;subst hm2;obtain⟨_,hE⟩:=hents 1000 ent1 hl1;rw[k2o c hbn',<-hκb,<-hpar 1000 (zav _)];refine box_ren hE hb1 he1 u1 (λg cp hk=>by rw[hk]at hE;exact hE.notS) (λj a a' y q1 q2 q3=>u2 S1 κ1 κ2 (Dm ms') (D1 D r') w' (λp hp=>⟨hset1 p.1 (.inr (zbf.2 ⟨p,hp,rfl⟩)),k2n p hp⟩) j a a' y q1 q2 q3)
     .obtain⟨q,hq1,hq2,hq3⟩:=b2 _ hm;obtain⟨_,hE⟩:=hents q e hq2;rw[k2n (c,q) hq1];exact hE.handed (λ_ h=>h) (λg cp hk=>by rw[hk]at hE;exact hE.notS) (λhb'=>by simp only at hq3;rw[hq3]at hb';cases hb')
    val:=.c hrel },?_⟩
   intro c hc;refine⟨d2 c hc,λhm=>?_,by simp⟩;rcases(hidset c).1 hm with rfl|hm
   .exact hbfz hc
   .obtain⟨p,hp,rfl⟩:=zbf.1 hm;exact hnfz p hp hc
end
end
section
variable[Dr]
section
variable{P:Program}{S:aD}{κ:Kap}{D:aD}{w:World}{L:aK}
def zKy{k:Bool}{r r0:Res}{y:Value}{w':World}{S':aD}{κ':Kap}(h:toKill k r0=some r)(he:EffAt S κ D w S' κ' r0 y w')(hd:Dis D r0):EffAt S κ D w S' κ' r y w'/\Dis D r:=by
 unfold toKill at h;split at h
 . rename_i b rest hf hk;split at h
   case isFalse=>cases h
   rename_i hc;simp only[zaf]at h;subst h
   have hin:∀c,c∈r0.frz↔c=b:=λc=>by grind
   have hD1:D1 D { r0 with frz:=[],kill:=some b }=D1 D r0:=by
    funext c;unfold D1;rw[hk];simp only[hin,ids];apply propext;constructor
    .grind
    .grind
   refine⟨?_,λc hm=>by cases hm⟩
   exact{
    os:=he.os
    tape:=he.tape
    output:=he.output
    size:=he.size
    blk:=λg hg hb=>he.blk g hg (λb' c hb'=>hb b' c (hb'.elim .inl (λq=>by rw[hk]at q;cases q)))
    sup:=he.sup
    snew:=λg hg=>by
     rcases he.snew g hg with h1|h1|⟨b',c',h1,h2⟩
     .exact .inl h1
     .exact .inr (.inl h1)
     grind
    slt:=he.slt
    sfrz:=λc hm=>by cases hm
    kold:=he.kold
    kout:=he.kout
    knew:=λc h1 h2 g c' h3=>by
     rcases he.knew c h1 h2 g c' h3 with h4|⟨b0,c0,h4,h5⟩
     .exact .inl h4
     simp_all
    one:=he.one
    res:=he.res
    ents:=λc ent hm=>by rw[hD1];exact he.ents c ent hm
    val:=by rw[hD1];exact he.val }
 simp_all
def zK2{o:Oper}{ρ:ak}{u t e:TypeId}{x:Operand}{n:Int}(ho:o.op=.convert u t x)(hx:CRel S w (.sl 1 [[.v (.int .u8 n)]]) (ρ x))(hu:P.underlying u=some (.slice e))
  (ht:P.underlying t=some .string) (he:P.underlying e=some (.int .u8)):(execOp ρ o).run P w=.ok (.value (.string (byte1 n))) w:=by
 have hy:∃y,y=ρ x:=⟨_,rfl⟩
 obtain⟨y,hy⟩:=hy;rw[<-hy]at hx
 cases hx with
 |sl _ _ A len cap u' hlen hcap hz ha hr =>
   rcases ha with ha|⟨a,rfl,_,ha⟩
   .cases ha
   obtain⟨h1,_⟩:=ha 0 0 _ _ rfl rfl;have h2:=hr 0 0 _ _ rfl rfl;generalize u' 0 0=q at h1 h2;cases h2;simp only[List.length_singleton]at hlen;subst hlen
   have h3:(loadCells a 1).run P w=.ok (([n].map (Value.int .u8)).toArray) w:=run_loadCells_list (P:=P) (w:=w) a [.int .u8 n] (λj v hv=>by
    match j,hv with
    |0,hv=>injection hv with hv;subst hv;simpa using h1)
   simp only[execOp,ho,<-hy,Sem.run_bind,run_convert_bytes_string w u t e _ _ _ hu he ht,run_bytesToString w a 1 cap [n] h3,Result.andThen_ok];rfl
def aop_sound{C:Cfg}{M:aO}{call:zcR}(hcall:CallOK P call){o:Oper}{E:aa}{r:Res}{a:Act}{K:aj}{Q:aX}
  (hS:∀g,S g->g<w.heap.size) (hok:Dr.ok S w) (hDL:∀b,D b↔(L b).isSome=true) (hinj:∀b b' g c c',D b->D b'->κ b=some (g,c)->κ b'=some (g,c')->b=b')
  (hL:∀b ent,L b=some ent->EntAt S κ D w (κ b) ent) (hE:∀x∈o.op.operands,VRel S κ D w (E x) (a.eval x)) (h:aop P C M call o E L=some r)
  (hK:∀y w' S' κ',EffAt S κ D w S' κ' r y w'->Dis D r->K (a.put o.dst y) w'):o.wp P a w K Q:=by
 have hdn:∀d,(L d).isNone=true->¬D d:=λd h hd=>by have:=(hDL d).1 hd;rw[Option.isNone_iff_eq_none]at h;rw[h]at this;cases this
 have still:(∃y,(execOp a.eval o).run P w=.ok (.value y) w/\VRel S κ D w r.val y/\r.set=[]/\r.kill=none/\r.frz=[]/\r.re=[])->o.wp P a w K Q:=by
  rintro⟨y,h1,h2,h3,h4,h5,h6⟩
  unfold Oper.wp;rw[h1];exact hK y w S κ (EffAt.still hS h2 h3 h4 h5 h6) (by intro b hb;rw[h5]at hb;cases hb)
 have valued:∀y w' S' κ',(execOp a.eval o).run P w=.ok (.value y) w'->EffAt S κ D w S' κ' r y w'->r.frz=[]->o.wp P a w K Q:=by intro y w' S' κ' h1 h2 h3;unfold Oper.wp;rw[h1];exact hK y w' S' κ' h2 (by intro b hb;rw[h3]at hb;cases hb)
 have nosel:∀op,o.op=op->(∀cs b,op≠.select cs b)->∀cs b,o.op≠.select cs b:=λop e hn cs b=>by rw[e];exact hn cs b
 unfold aop at h;split at h
 .rename_i x ho;injection h with h;subst h;exact still ⟨a.eval x,by simp[execOp,ho],hE x (by simp[ho,Op.operands]),rfl,rfl,rfl,rfl⟩
 .rename_i x ho;injection h with h;subst h;exact still ⟨a.eval x,by simp[execOp,ho],hE x (by simp[ho,Op.operands]),rfl,rfl,rfl,rfl⟩
 . rename_i c x y ho;split at h
   case h_2=>cases h
   rename_i t hc;injection h with h;subst h;have h1:=hE c (by simp[ho,Op.operands]);rw[hc]at h1;refine still ⟨if t then a.eval x else a.eval y,by simp[execOp,ho,h1.v_inv,asBool],?_,rfl,rfl,rfl,rfl⟩;cases t
   .exact hE y (by simp[ho,Op.operands])
   .exact hE x (by simp[ho,Op.operands])
 . rename_i t ho;split at h
   case h_2=>cases h
   rename_i d zero n hd hz hn;split at h
   case isFalse=>cases h
   rename_i hc;obtain⟨h1,h2,h3⟩:=hc;obtain⟨i,z,hi,hzz,rfl⟩:=ziH hz;split at h
   .obtain⟨q,w',κ',e1,e2⟩:=arr_sound (P:=P) (t:=t) (d:=d) (r:=r) hS (hdn d h3) h2 h;refine valued q w' S κ' ?_ e2 (aArr_frz h);simp only[execOp,ho,Instr.alloc,Sem.run_bind,zh5 hi hzz,Result.andThen_ok];simp only[Instr.box,Sem.run_bind]at e1;rw[e1];simp
   injection h with h
   have hbox:∃q w' κ',(Instr.box t z).run P w=.ok q w'/\EffAt S κ D w S κ' r q w':=by
    have hcl:(AV.agg (z.cells.toList.map .v)).cells=z.cells.toList.map .v:=rfl
    have hrel:VRel S κ D w (AV.agg (z.cells.toList.map .v)) (.agg z.cells):=by obtain⟨c1,c2,c3⟩:=zmY (S:=S) (w:=w) h2;exact .c (.agg _ _ c1 c2 c3)
    obtain⟨q,w',κ',e1,e2⟩:=zGi (P:=P) (t:=t) (d:=d) (r:=r) hS (hdn d h3) (by rw[hcl];exact h2) (by rw[<-h,hcl,h1]) hrel;refine⟨q,w',κ',?_,e2⟩;have:(Instr.box t z).run P w=(Instr.box t (.agg z.cells)).run P w:=by simp[Instr.box,newVar,Value.cells]
    rw[this];exact e1
   obtain⟨q,w',κ',e1,e2⟩:=hbox;refine valued q w' S κ' ?_ e2 (by rw[<-h]);simp only[execOp,ho,Instr.alloc,Sem.run_bind,zh5 hi hzz,Result.andThen_ok];simp only[Instr.box,Sem.run_bind]at e1;rw[e1];simp
 . rename_i t x ho;split at h
   case h_2=>cases h
   rename_i d hd;split at h
   case isFalse=>cases h
   rename_i hc;injection h with h;obtain⟨q,w',κ',e1,e2⟩:=zGi (P:=P) (t:=t) (d:=d) (r:=r) hS (hdn d hc.2) hc.1 h.symm (hE x (by simp[ho,Op.operands]));exact valued q w' S κ' (by simp[execOp,ho,e1]) e2 (by rw[<-h])
 . rename_i t ps ho
   obtain⟨y,e1,e2,e3,e4,e5⟩:=zJe (ρ:=a.eval) h (λp hp=>hE p.2 (by
    simp only[ho,Op.operands];simp
    exact⟨p.1,by simpa using hp⟩))
   refine still ⟨y,?_,e2,e3,e4,e5⟩;simp only[execOp,ho];simp only[ziv]at e1;simp[e1]
 . rename_i t len ps ho
   have hps:∀p∈ps,VRel S κ D w (E p.2) (a.eval p.2):=λp hp=>hE p.2 (by
    simp only[ho,Op.operands];simp
    exact⟨p.1,by simpa using hp⟩)
   split at h
   case h_2=>cases h
   rename_i d hd;split at h
   . split at h
     case isFalse=>cases h
     rename_i hc;obtain⟨y,w',κ',e1,e2⟩:=zBK (E:=λx=>nrmP P t (E x)) (ρ:=a.eval) hS (hdn d hc) h (λp hp=>nrmP_rel (hps p hp));refine valued y w' S κ' ?_ e2 ?_
     .simp only[execOp,ho];simp only[ziv]at e1;simp[e1]
     . unfold zpv at h
       repeat' (split at h)
       all_goals first|(injection h with h;subst h;rfl)|cases h
   . obtain⟨y,w',S',e1,e2⟩:=aLit_sound (E:=λx=>nrmP P t (E x)) (ρ:=a.eval) hS h (λp hp=>nrmP_rel (hps p hp));refine valued y w' S' κ ?_ e2 ?_
     .simp only[execOp,ho];simp only[ziv]at e1;simp[e1]
     . unfold aLit at h
       repeat' (split at h)
       all_goals first|(injection h with h;subst h;rfl)|cases h
 .rename_i t x ho;obtain⟨y,e1,e2,e3,e4,e5⟩:=zw3 h (hE x (by simp[ho,Op.operands])) hL;exact still ⟨y,by simp[execOp,ho,e1],e2,e3,e4,e5⟩
 . rename_i t x y ho;obtain⟨w',e1,e2⟩:=zJn hS h (nrmS_rel (hE y (by simp[ho,Op.operands]))) (hE x (by simp[ho,Op.operands])) hL;unfold Oper.wp;have:(execOp a.eval o).run P w=.ok .skip w':=by simp[execOp,ho,e1]
   rw[this];refine hK undef w' S κ (e2 undef) ?_
   have hf:r.frz=[]:=by
    unfold aStore at h
    repeat' (split at h)
    all_goals first|(injection h with h;subst h;rfl)|cases h
   intro b hb;rw[hf]at hb;cases hb
 . rename_i x ho;split at h
   . rename_i cs hx;injection h with h;subst h;have h1:=hE x (by simp[ho,Op.operands]);rw[hx]at h1;have hf:=h1.fp_inv;refine still ⟨a.eval x,?_,h1,rfl,rfl,rfl,rfl⟩;simp only[execOp,ho];generalize a.eval x=q at hf
     cases hf with
     |fp _ ad u hS' hc hr=>rfl
   .rename_i b z i oo hx;injection h with h;subst h;have h1:=hE x (by simp[ho,Op.operands]);rw[hx]at h1;obtain⟨g,c,_,_,he⟩:=h1.loc_inv;refine still ⟨a.eval x,?_,h1,rfl,rfl,rfl,rfl⟩;simp only[execOp,ho,he];rfl
   .rename_i z es hx;injection h with h;subst h;have h1:=hE x (by simp[ho,Op.operands]);rw[hx]at h1;obtain⟨_,_,hf,_⟩:=h1.fa_inv.fa_data;refine still ⟨a.eval x,?_,h1,rfl,rfl,rfl,rfl⟩;simp only[execOp,ho,hf];rfl
   .rename_i q hx;injection h with h;subst h;have h1:=hE x (by simp[ho,Op.operands]);rw[hx]at h1;refine still ⟨a.eval x,?_,h1,rfl,rfl,rfl,rfl⟩;simp only[execOp,ho,h1.v_inv];rfl
   .cases h
 . rename_i x i ho;split at h
   case h_2=>cases h
   rename_i vs hx;split at h
   case h_2=>cases h
   rename_i av hv;injection h with h;subst h;have h1:=hE x (by simp[ho,Op.operands]);rw[hx]at h1;obtain⟨arr,he,hl,hr⟩:=h1.tup_inv;have hlt:i<arr.size:=by have:=(zal.1 hv).1;omega
   refine still ⟨arr[i],?_,hr i av _ hv (zaN hlt),rfl,rfl,rfl,rfl⟩;simp[execOp,ho,he,Instr.extract,hlt]
 .rename_i s x f ho;obtain⟨y,e1,e2,e3,e4,e5⟩:=zJg h (hE x (by simp[ho,Op.operands]));exact still ⟨y,by simp[execOp,ho,e1],e2,e3,e4,e5⟩
 . rename_i s x f ho;split at h
   case h_2=>cases h
   rename_i cs fs hx hu;split at h
   case h_2=>cases h
   rename_i fd hfd;split at h
   case h_2=>cases h
   rename_i av hav;injection h with h;subst h;have h1:=hE x (by simp[ho,Op.operands]);rw[hx]at h1;obtain⟨arr,he,hl,h11,hr⟩:=h1.agg_inv;obtain⟨y,e1,e2⟩:=zFe (P:=P) (w:=w) hl h11 hr hav;refine still ⟨y,?_,e2,rfl,rfl,rfl,rfl⟩;simp[execOp,ho,he,Instr.field,run_underlying hu,hfd,asAgg,e1]
 .rename_i t x ix ho;obtain⟨y,e1,e2,e3,e4,e5⟩:=zu8 h (hE x (by simp[ho,Op.operands])) (hE ix (by simp[ho,Op.operands]));exact still ⟨y,by simp[execOp,ho,e1],e2,e3,e4,e5⟩
 . rename_i t x ix ho;split at h
   . rename_i cs k n len e hx hix hu;split at h
     case h_2=>cases h
     rename_i sz hs;split at h
     case isFalse=>cases h
     rename_i hn;split at h
     case h_2=>cases h
     rename_i av hav;injection h with h;subst h;have h1:=hE x (by simp[ho,Op.operands]);have h2:=hE ix (by simp[ho,Op.operands]);rw[hx]at h1;rw[hix]at h2;obtain⟨arr,he,hl,h11,hr⟩:=h1.agg_inv;obtain⟨y,e1,e2⟩:=zFe (P:=P) (w:=w) hl h11 hr hav;refine still ⟨y,?_,e2,rfl,rfl,rfl,rfl⟩;simp[execOp,ho,he,h2.v_inv,Instr.index,asIntOf,run_underlying hu,hn,zdY hs,e1]
   .exact still (zlt (nosel _ ho (by simp)) hE h)
 . rename_i t x lo hi ho;split at h
   .exact still (zlt (nosel _ ho (by simp)) hE h)
   . rename_i av hne
     have opt:∀q:Option Operand,(∀y,q=some y->y∈o.op.operands)->(q.map E=none/\q.map a.eval=none)\/∃b y,q.map E=some b/\q.map a.eval=some y/\VRel S κ D w b y:=by
      intro q hq
      cases q with
      |none=>exact .inl ⟨rfl,rfl⟩
      |some y=>exact .inr ⟨_,_,rfl,rfl,hE y (hq y rfl)⟩
     obtain⟨y,e1,e2,e3,e4,e5⟩:=zJm h (hE x (by simp[ho,Op.operands])) (opt lo (λy hy=>by simp[ho,Op.operands,hy])) (opt hi (λy hy=>by simp[ho,Op.operands,hy]));exact still ⟨y,by simp[execOp,ho,e1],e2,e3,e4,e5⟩
 . rename_i f first cap ho
   split at h
   case isFalse=>cases h
   rename_i hf;injection h with h;subst h;have hf0:first=#[]:=Array.eq_empty_of_size_eq_zero hf
   subst hf0;refine still ⟨.func (.func f) #[] (cap.map a.eval),by simp[execOp,ho,Instr.makeFunc],.fn f _ _ (by simp) ?_,rfl,rfl,rfl,rfl⟩;intro j c x hj hx;simp at hj hx;obtain⟨q,hq,rfl⟩:=hj;obtain⟨q',hq',rfl⟩:=hx;rw[hq]at hq';injection hq' with hq';subst hq';exact hE q (by simp[ho,Op.operands];exact zfb hq)
 . rename_i t l c ho;split at h
   case h_2=>cases h
   rename_i d hd;split at h
   case isFalse=>cases h
   rename_i hc;split at h
   . obtain⟨y,w',S',e1,e2⟩:=zJi hS h (hE l (by simp[ho,Op.operands])) (hE c (by simp[ho,Op.operands]));refine valued y w' S' κ (by simp[execOp,ho,e1]) e2 ?_;unfold aMakeL at h
     repeat' (split at h)
     all_goals first|(injection h with h;subst h;rfl)|cases h
   obtain⟨y,w',κ',e1,e2⟩:=zKO hS (hdn d hc) h (hE l (by simp[ho,Op.operands])) (hE c (by simp[ho,Op.operands]));refine valued y w' S κ' (by simp[execOp,ho,e1]) e2 ?_;unfold aMake at h
   repeat' (split at h)
   all_goals first|(injection h with h;subst h;rfl)|cases h
 . rename_i args argTypes ho;split at h
   case h_2=>cases h
   rename_i d s x t t' hd ha ht;split at h
   case isFalse=>cases h
   rename_i hc;obtain⟨rfl,hdd⟩:=hc;have ha':args=#[s,x]:=by rw[<-zdc (xs:=args),ha]
   have ht':argTypes=#[t,t]:=by rw[<-zdc (xs:=argTypes),ht]
   subst ha';subst ht';obtain⟨y,w',κ',e1,e2⟩:=zHt (ty:=o.type) hS (hdn d hdd) h (hE s (by simp[ho,Op.operands,Call.operands])) (hE x (by simp[ho,Op.operands,Call.operands])) hL;refine valued y w' S κ' ?_ e2 ?_
   .simp[execOp,ho,resolve,invoke,builtin,e1]
   . unfold znh at h
     repeat' (split at h)
     all_goals first|(injection h with h;subst h;rfl)|cases h
 . rename_i args argTypes ho;split at h
   case h_2=>cases h
   rename_i s x t tr ha ht;have ha':args=#[s,x]:=by rw[<-zdc (xs:=args),ha]
   subst ha';obtain⟨y,w',e1,e2⟩:=zKI (P:=P) (ty:=o.type) (ts:=argTypes) hS (by rw[<-zfw,ht];rfl) h (hE s (by simp[ho,Op.operands,Call.operands])) (hE x (by simp[ho,Op.operands,Call.operands])) hL;refine valued y w' S κ ?_ e2 ?_
   .simp[execOp,ho,resolve,invoke,builtin,e1]
   . unfold aCopy at h
     repeat' (split at h)
     all_goals first|(injection h with h;subst h;rfl)|cases h
 . rename_i args argTypes ho;split at h
   case h_2=>cases h
   rename_i s t tr ha ht;have ha':args=#[s]:=by rw[<-zdc (xs:=args),ha]
   subst ha';obtain⟨y,w',e1,e2⟩:=zJf (P:=P) (ty:=o.type) (ts:=argTypes) hS (by rw[<-zfw,ht];rfl) h (hE s (by simp[ho,Op.operands,Call.operands])) hL;refine valued y w' S κ ?_ e2 ?_
   .simp[execOp,ho,resolve,invoke,builtin,e1]
   . unfold aClear at h
     repeat' (split at h)
     all_goals first|(injection h with h;subst h;rfl)|cases h
 . rename_i args argTypes ho;split at h
   case h_2=>cases h
   rename_i s t ha ht;split at h
   .exact still (zlt (nosel _ ho (by simp)) hE h)
   . rename_i av e hu hne;have ha':args=#[s]:=by rw[<-zdc (xs:=args),ha]
     have ht':argTypes=#[t]:=by rw[<-zdc (xs:=argTypes),ht]
     subst ha';subst ht';have h1:=hE s (by simp[ho,Op.operands,Call.operands])
     have hlen:∃A n c,a.eval s=.slice A n c/\r={ val:=.v (.int .i64 n) }:=by
      unfold aLen at h;split at h
      . rename_i z es hh;injection h with h;rw[hh]at h1;have:=h1.sl_inv;generalize a.eval s=q at this
        cases this with
        |sl _ _ A len cap u hlen=>exact⟨A,len,cap,rfl,by rw[<-h,hlen]⟩
      . rename_i b z off n hh;injection h with h;rw[hh]at h1;generalize a.eval s=q at h1
        cases h1 with
        |c h=>cases h
        |row0=>exact⟨none,0,0,rfl,by rw[<-h]⟩
        |row _ _ _ _ g c off' cap=>exact⟨_,n,cap,rfl,by rw[<-h]⟩
      .cases h
     obtain⟨A,n,c,he,hr⟩:=hlen;subst hr;exact still ⟨.int .i64 n,by simp[execOp,ho,resolve,invoke,builtin,Builtin.len_,he,run_underlying hu,goInt],.c (.v _),rfl,rfl,rfl,rfl⟩
   . rename_i av kt et hu hne;have ha':args=#[s]:=by rw[<-zdc (xs:=args),ha]
     have ht':argTypes=#[t]:=by rw[<-zdc (xs:=argTypes),ht]
     subst ha';subst ht';obtain⟨y,e1,e2,e3,e4,e5⟩:=zKN (ty:=o.type) hu h (hE s (by simp[ho,Op.operands,Call.operands])) hL;exact still ⟨y,by simp[execOp,ho,resolve,invoke,builtin,e1],e2,e3,e4,e5⟩
   .cases h
 . rename_i args argTypes ho;split at h
   case h_2=>cases h
   rename_i m k t tr ha ht;have ha':args=#[m,k]:=by rw[<-zdc (xs:=args),ha]
   subst ha';obtain⟨y,w',S',e1,e2,e3⟩:=zKM (P:=P) (ty:=o.type) (ts:=argTypes) hS hinj (by rw[<-zfw,ht];rfl) h (hE m (by simp[ho,Op.operands,Call.operands])) (hE k (by simp[ho,Op.operands,Call.operands])) hL;refine valued y w' S' κ ?_ e2 e3;simp[execOp,ho,resolve,invoke,builtin,e1]
 . rename_i t ho;split at h
   case h_2=>cases h
   rename_i d hd;split at h
   case isFalse=>cases h
   rename_i hc;obtain⟨y,w',κ',e1,e2,e3⟩:=zJj hS (hdn d hc) h;exact valued y w' S κ' (by simp[execOp,ho,e1]) e2 e3
 .rename_i t m k ok ho;obtain⟨y,e1,e2,e3,e4,e5⟩:=zJh h (hE m (by simp[ho,Op.operands])) (hE k (by simp[ho,Op.operands])) hL;exact still ⟨y,by simp[execOp,ho,e1],e2,e3,e4,e5⟩
 . rename_i t m k x ho;obtain⟨w',S',e1,e2,e3⟩:=zCs hS hDL hinj h (hE m (by simp[ho,Op.operands])) (hE k (by simp[ho,Op.operands])) (hE x (by simp[ho,Op.operands])) hL;unfold Oper.wp;have:(execOp a.eval o).run P w=.ok .skip w':=by simp[execOp,ho,e1]
   rw[this];exact hK undef w' S' κ (e2 undef) e3
 . rename_i t m k x ho;obtain⟨w',S',e1,e2,e3⟩:=zCs hS hDL hinj h (hE m (by simp[ho,Op.operands])) (hE k (by simp[ho,Op.operands])) (hE x (by simp[ho,Op.operands])) hL;unfold Oper.wp;have:(execOp a.eval o).run P w=.ok .skip w':=by simp[execOp,ho,e1]
   rw[this];exact hK undef w' S' κ (e2 undef) e3
 . rename_i g args argTypes ho;split at h
   case h_2=>cases h
   rename_i f cap hg;split at h
   .exact still (zlt (nosel _ ho (by simp)) hE h)
   . rename_i hb;have h1:=hE g (by simp[ho,Op.operands,Call.operands]);rw[hg]at h1;obtain⟨caps,he,hcl,hcr⟩:=h1.fn_inv
     have hvals:∀(j:Nat) (av:AV) (x:Value),(args.toList.map E++cap)[j]?=some av->(args.map a.eval++caps)[j]?=some x->VRel S κ D w av x:=by
      intro j av x hj hx;rw[zce]at hj;rw[zgY]at hx;simp only[zab,zcX]at hj;simp only[Array.size_map]at hx;split at hj
      .rename_i hlt;rw[if_pos hlt]at hx;simp at hj hx;obtain⟨q,hq,rfl⟩:=hj;obtain⟨q',hq',rfl⟩:=hx;rw[hq]at hq';injection hq' with hq';subst hq';exact hE q (by simp[ho,Op.operands,Call.operands];exact .inr (zfb hq))
      .rename_i hlt;rw[if_neg hlt]at hx;exact hcr _ av x hj hx
     have hvals':∀(j:Nat) (av:AV) (x:Value),(nrmA P (rawT C f argTypes) (args.toList.map E)++cap)[j]?=some av->(args.map a.eval++caps)[j]?=some x->VRel S κ D w av x:=by
      intro j av x hj hx;rw[zce]at hj;split at hj
      . rename_i hlt;obtain⟨a0,ha0,hc⟩:=zyJ P _ _ j av hj
        have h0:(args.toList.map E++cap)[j]?=some a0:=by rw[zce,if_pos (by rw[zlC]at hlt;exact hlt)];exact ha0
        rcases hc with rfl|⟨t',rfl⟩
        .exact hvals j _ x h0 hx
        .exact zuY (hvals j _ x h0 hx)
      .rename_i hlt;refine hvals j av x ?_ hx;rw[zce,if_neg (by rw[zlC]at hlt;exact hlt)];rw[zlC]at hj;exact hj
     have enter:enters P f=true->∀Q',Calls P f (args.map a.eval++caps) w Q'->(∀e w',Q' e w'->∃x,e=.returned x/\K (a.put o.dst x) w')->o.wp P a w K Q:=by
      intro hb' Q' hcalls hQ;unfold enters at hb';split at hb'
      case h_2=>cases hb'
      rename_i fn hfn;simp only[zaU,zed]at hb';have hbody:¬fn.body=none:=by cases hq:fn.body<;>simp_all
      have hname:¬fn.name = "runtime.NumGoroutine":=by simpa using hb'.2
      have hrun:(execOp a.eval o).run P w=.ok (.enter f (args.map a.eval++caps)) w:=by simp[execOp,ho,resolve,he,Deferred.ofValue,invoke,callFunc,hfn,hbody,hname]
      unfold Oper.wp;rw[hrun];simp only[Oper.upon];refine hcalls.mono ?_;intro e w' hq;obtain⟨x,rfl,hk⟩:=hQ e w' hq;exact hk
     have done:∀(d:aZ) (k:Bool) (r0:Res),(∀d',d=some d'->¬D d')->aCall C call L d f (nrmA P (rawT C f argTypes) (args.toList.map E)++cap)=some r0->toKill k r0=some r->o.wp P a w K Q:=by
      intro d k r0 hd hc htk;obtain⟨hb',hcalls⟩:=zKH hcall hS hok hDL hinj hd hL hc (vals:=args.map a.eval++caps) (by simp[hcl,zlC]) hvals';refine enter hb' _ hcalls ?_
      rintro e w' ⟨x,S',κ',rfl,h2,h3⟩
      obtain⟨h4,h5⟩:=zKy htk h2 h3;exact⟨x,rfl,hK x w' S' κ' h4 h5⟩
     split at h
     . rename_i k0 hdp;split at h
       case isFalse=>cases h
       obtain⟨hb',hcalls⟩:=zKL hcall hS hok hDL hinj hL h (vals:=args.map a.eval++caps) (by simp[hcl,zlC]) hvals';refine enter hb' _ hcalls ?_
       rintro e w' ⟨x,S',κ',rfl,h2,h3⟩
       exact⟨x,rfl,hK x w' S' κ' h2 h3⟩
     split at h
     . rename_i d hd;split at h
       case isFalse=>cases h
       rename_i hdd;split at h
       case h_2=>cases h
       rename_i r0 hc;exact done (some d) (M.contains d) r0 (λd' hd'=>by injection hd' with hd';subst hd';exact hdn d hdd) hc h
     .exact done none false r (λd' hd'=>by cases hd') h rfl
 . rename_i u t x ho;split at h
   . rename_i n hx;split at h
     . rename_i e hu ht;split at h
       case h_2=>cases h
       rename_i he;injection h with h;subst h;refine still ⟨.string (byte1 n),?_,.c (.v _),rfl,rfl,rfl,rfl⟩;have h1:=hE x (by simp[ho,Op.operands]);rw[hx]at h1;exact zK2 ho h1.sl_inv hu ht he
     .cases h
   .exact still (zlt (λcs b e=>by simp_all) hE h)
 . rename_i op t x y u ho;split at h
   .rename_i cs ds hx hy;have h1:=hE x (by simp[ho,Op.operands]);have h2:=hE y (by simp[ho,Op.operands]);rw[hx]at h1;rw[hy]at h2;obtain⟨b,e1,e2⟩:=aEq_sound (o:=o) (ρ:=a.eval) ho h h1 h2;subst e2;exact still ⟨.bool b,e1,.c (.v _),rfl,rfl,rfl,rfl⟩
   . split at h
     .rename_i r0 hn;injection h with h;subst h;obtain⟨b,e1,e2⟩:=zKl (o:=o) (ρ:=a.eval) ho hn (hE x (by simp[ho,Op.operands])) (hE y (by simp[ho,Op.operands]));subst e2;exact still ⟨.bool b,e1,.c (.v _),rfl,rfl,rfl,rfl⟩
     .exact still (zlt (λcs b e=>by simp_all) hE h)
 .cases h
 .rename_i hsel _;exact still (zlt (λcs b e=>by simp_all) hE h)
end
end
structure Shape(o:Oper)(L:aK)(r:Res):Prop where
 kill:∀b,r.kill=some b->b ∉ ids r.set/\b<1000
 set:∀b∈ids r.set,(L b).isSome=true\/o.dst=some b
 frz:∀b∈r.frz,b<1000
 re:∀b∈r.re,b<1000
def Shape.none{o:Oper}{L:aK}{r:Res}(h1:r.set=[])(h2:r.kill=none)(h3:r.frz=[])(h4:r.re=[]:=by rfl):Shape o L r:=
 ⟨(λb h=>by rw[h2]at h;cases h),(λb h=>by simp[ids,h1]at h),(λb h=>by rw[h3]at h;cases h),(λb h=>by rw[h4]at h;cases h)⟩
def Shape.one{o:Oper}{L:aK}{r:Res}{d:Nat}{e:Ent}(h1:r.set=[(d,e)])(hd:(L d).isSome=true\/o.dst=some d)(h2:∀b,r.kill=some b->b≠d/\b<1000)(h3:r.frz=[])(h4:r.re=[]:=by rfl):Shape o L r:=
 ⟨λb h=>⟨(λhm=>by simp[ids,h1]at hm;exact(h2 b h).1 hm),(h2 b h).2⟩,(λb h=>by simp[ids,h1]at h;subst h;exact hd),(λb h=>by rw[h3]at h;cases h),(λb h=>by rw[h4]at h;cases h)⟩
def zCN{L:aK}{wr:aO}:∀(args:aN) (k:Nat) (bc:aN) (ms:Mem) (bk:ac) (fz:aO),zet L wr k args=some (bc,ms,bk,fz)->∀p∈bk,(L p.1).isSome=true:=by
 intro args
 induction args with
 |nil=>intro k bc ms bk fz h p hp;simp[zet]at h;obtain⟨_,_,rfl,_⟩:=h;cases hp
 |cons a r ih =>
   intro k bc ms bk fz h p hp;simp only[zet]at h
   cases hr:zet L wr (k+1) r with
   |none=>simp[hr]at h
   |some q =>
     obtain⟨as0,ms0,bk0,fz0⟩:=q;simp only[hr]at h;have i:=ih (k+1) as0 ms0 bk0 fz0 hr;split at h<;>rename_i hcnd<;>clear hcnd
     . split at h
       . rename_i b z
         cases hl:L b with
         |none=>simp[hl]at h
         |some ent =>
           simp only[hl]at h;split at h
           case isFalse=>cases h
           simp only[zG]at h;obtain⟨_,_,rfl,_⟩:=h;rcases zat.1 hp with rfl|hp
           .simp[hl]
           .exact i p hp
       . rename_i b z off n
         cases hl:L b with
         |none=>simp[hl]at h
         |some ent =>
           simp only[hl]at h;split at h
           case isFalse=>cases h
           simp only[zG]at h;obtain⟨_,_,rfl,_⟩:=h;rcases zat.1 hp with rfl|hp
           .simp[hl]
           .exact i p hp
       . rename_i b
         cases hl:L b with
         |none=>simp[hl]at h
         |some ent =>
           simp only[hl]at h;split at h
           case isFalse=>cases h
           simp only[zG]at h;obtain⟨_,_,rfl,_⟩:=h;rcases zat.1 hp with rfl|hp
           .simp[hl]
           .exact i p hp
       . split at h
         case h_2=>cases h
         rename_i b z f hsl
         cases hl:L b with
         |none=>simp[hl]at h
         |some ent =>
           simp only[hl]at h;split at h
           case isFalse=>cases h
           simp only[zG]at h;obtain⟨_,_,rfl,_⟩:=h;rcases zat.1 hp with rfl|hp
           .simp[hl]
           .exact i p hp
     . split at h
       . split at h
         . rename_i b z n
           cases hl:L b with
           |none=>simp[hl]at h
           |some ent =>
             simp only[hl]at h;split at h
             case isFalse=>cases h
             simp only[zG]at h;obtain⟨_,_,rfl,_⟩:=h;rcases zat.1 hp with rfl|hp
             .simp[hl]
             .exact i p hp
         .cases h
       cases hs:snap L 5 a with
       |none=>simp[hs]at h
       |some a'=>simp only[zG,hs]at h;obtain⟨_,_,rfl,_⟩:=h;exact i p hp
def zGd{L:aK}{wr:aO}{args:aN}{k:Nat}{bc:aN}{ms:Mem}{bk:ac}{fz:aO}(h:zet L wr k args=some (bc,ms,bk,fz)):(∀p∈bk,p.2<1000->p.1<1000)/\(bk.map (·.1)).Nodup:=by
 have key:∀(args:aN) (k:Nat) (bc:aN) (ms:Mem) (bk:ac) (fz:aO),zet L wr k args=some (bc,ms,bk,fz)->(∀p∈bk,p.2<1000->p.1<1000)/\(bk.map (·.1)).Nodup:=by
  intro args
  induction args with
  |nil=>intro k bc ms bk fz h;simp[zet]at h;obtain⟨_,_,rfl,_⟩:=h;simp
  |cons a r ih =>
    intro k bc ms bk fz h;simp only[zet]at h
    cases hr:zet L wr (k+1) r with
    |none=>simp[hr]at h
    |some q =>
      obtain⟨as0,ms0,bk0,fz0⟩:=q;simp only[hr]at h;obtain⟨i1,i2⟩:=ih (k+1) as0 ms0 bk0 fz0 hr
      have cons:∀(b m:Nat),(m<1000->b<1000)->(bk0.all (λp=>p.1≠b))=true->(∀p∈(b,m)::bk0,p.2<1000->p.1<1000)/\(((b,m)::bk0).map (·.1)).Nodup:=by
       intro b m hbm hall;refine⟨λp hp=>?_,?_⟩
       . rcases zat.1 hp with rfl|hp
         .exact hbm
         .exact i1 p hp
       .simp only[zbx,zfd];refine⟨λhm=>?_,i2⟩;obtain⟨q,hq,e⟩:=zbf.1 hm;have:=zbd.1 hall q hq;simp at this;exact this e
      split at h
      . split at h
        . split at h
          . split at h
            .rename_i hc;simp only[zG]at h;obtain⟨_,_,rfl,_⟩:=h;exact cons _ _ (by omega) hc.2.2.2
            .cases h
          .cases h
        . split at h
          . split at h
            .rename_i hc;simp only[zG]at h;obtain⟨_,_,rfl,_⟩:=h;exact cons _ _ (by omega) hc.2.2.2
            .cases h
          .cases h
        . split at h
          . split at h
            .rename_i hc;simp only[zG]at h;obtain⟨_,_,rfl,_⟩:=h;exact cons _ _ (by omega) hc.2.2
            .cases h
          .cases h
        . split at h
          case h_2=>cases h
          split at h
          . split at h
            .rename_i hc;simp only[zG]at h;obtain⟨_,_,rfl,_⟩:=h;exact cons _ _ (by omega) hc.2.2.2
            .cases h
          .cases h
      . split at h
        . split at h
          . split at h
            . split at h
              .rename_i hc;simp only[zG]at h;obtain⟨_,_,rfl,_⟩:=h;exact cons _ _ (λ_=>hc.2.2.2.2.1) hc.2.2.2.2.2.2
              .cases h
            .cases h
          .cases h
        . split at h
          .simp only[zG]at h;obtain⟨_,_,rfl,_⟩:=h;exact⟨i1,i2⟩
          .cases h
 exact key args k bc ms bk fz h
def zCp{C:Cfg}{call:zcR}{o:Oper}{L:aK}{f:FuncId}{args:aN}{r:Res}(hdn:∀d,o.dst=some d->(L d).isSome=false)(h:aCall C call L o.dst f args=some r):Shape o L r:=by
 unfold aCall at h;split at h
 .cases h
 . rename_i bc ms bk fz hp;split at h
   case isFalse=>cases h
   split at h
   .cases h
   . split at h
     .cases h
     . rename_i back hback;obtain⟨b1,b2⟩:=zym hback;obtain⟨hgv,hnd⟩:=zGd hp
       have hb:∀b∈ids back,(L b).isSome=true:=by intro b hb;rw[b1]at hb;obtain⟨p,hp',rfl⟩:=zbf.1 hb;exact zCN args 0 bc ms bk fz hp p (zgS.1 hp').1
       split at h
       case isFalse=>cases h
       rename_i hall;have hfz:=λb hb=>of_decide_eq_true (zbd.1 hall b hb)
       split at h
       case h_2=>cases h
       rename_i res hres;obtain⟨hkr,hgk⟩:=zCX h (zAT hres);subst hkr
       have hk:∀b,(zg9 bk).head?=some b->b ∉ ids back/\b<1000/\(L b).isSome=true:=by
        intro b hb';obtain⟨k,q1,q2⟩:=znn.1 ((hgk b).2 hb');refine⟨λhm=>?_,hgv _ q1 q2,zCN args 0 bc ms bk fz hp _ q1⟩;rw[b1]at hm;obtain⟨p,hp',e⟩:=zbf.1 hm;obtain⟨p1,p2⟩:=zgS.1 hp'
        have:p=(b,k):=by
         have nd:∀l:List (Nat×Nat),(l.map (·.1)).Nodup->∀x y,x∈l->y∈l->x.1=y.1->x=y:=by
          intro l hn
          induction l with
          |nil=>intro x y h;cases h
          |cons q l ihl =>
            intro x y h1 h2 e;simp only[zbx,zfd]at hn;rcases zat.1 h1 with rfl|h1'
            . rcases zat.1 h2 with rfl|h2'
              .rfl
              .exact absurd (zbf.2 ⟨_,h2',e.symm⟩) hn.1
            . rcases zat.1 h2 with rfl|h2'
              .exact absurd (zbf.2 ⟨_,h1',e⟩) hn.1
              .exact ihl hn.2 x y h1' h2' e
         exact nd bk hnd p (b,k) p1 q1 e
        rw[this]at p2;simp at p2;omega
       have fin:∀(v:AV) (fz':aO),(∀b∈fz',b<1000)->Shape o L { val:=v,set:=back,frz:=fz',kill:=(zg9 bk).head? }:=by intro v fz' hf;exact⟨λb hk'=>⟨(hk b hk').1,(hk b hk').2.1⟩,λb hm=>.inl (hb b hm),hf,λb hm=>by cases hm⟩
       have fin2:∀(v:AV) (d:Nat) (e:Ent),o.dst=some d->(L d).isSome=false->∀fz',(∀b∈fz',b<1000)->Shape o L { val:=v,set:=(d,e)::back,frz:=fz',kill:=(zg9 bk).head? }:=by
        intro v d e hd hn fz' hf;refine⟨λb hk'=>⟨λhm=>?_,(hk b hk').2.1⟩,λb hm=>?_,hf,λb hm=>by cases hm⟩
        . simp only[ids,zbx,zat]at hm;rcases hm with rfl|hm
          .have:=(hk _ hk').2.2;rw[hn]at this;cases this
          .exact(hk b hk').1 hm
        . simp only[ids,zbx,zat]at hm;rcases hm with rfl|hm
          .exact .inr hd
          .exact .inl (hb b hm)
       unfold zqO at hres;split at hres
       .injection hres with hres;subst hres;exact fin2 _ _ _ (by assumption) (hdn _ (by assumption)) _ hfz
       .injection hres with hres;subst hres;exact fin2 _ _ _ (by assumption) (hdn _ (by assumption)) _ hfz
       .injection hres with hres;subst hres;exact fin2 _ _ _ (by assumption) (hdn _ (by assumption)) _ hfz
       . split at hres
         .injection hres with hres;subst hres;exact fin2 _ _ _ (by assumption) (hdn _ (by assumption)) _ hfz
         .cases hres
       .cases hres
       .cases hres
       .cases hres
       .cases hres
       . split at hres
         .injection hres with hres;subst hres;exact fin _ _ hfz
         .cases hres
       . split at hres
         .injection hres with hres;subst hres;exact fin _ _ hfz
         .cases hres
       .cases hres
       .injection hres with hres;subst hres;exact fin _ _ hfz
def zKK{call:zcR}{o:Oper}{L:aK}{f:FuncId}{k0:Nat}{args:aN}{r:Res}(h:aDeep call L f k0 args=some r):Shape o L r:=by
 unfold aDeep at h;split at h
 case h_2=>cases h
 rename_i b z hk0;split at h
 case h_2=>cases h
 rename_i ent hlb;split at h
 case isFalse=>cases h
 split at h
 case h_2=>cases h
 rename_i cs hes;split at h
 case h_2=>cases h
 rename_i cs' nms nbk bc fz hnest hda;split at h
 case isFalse=>cases h
 rename_i hcond;obtain⟨hz,hbx,hnb,hfz⟩:=hcond;split at h
 case h_2=>cases h
 rename_i rv ms' hc;obtain⟨n1,n2,n3,n4,n5,n6,n7⟩:=zGK cs 900 cs' nms nbk hnest;unfold dRes at h;split at h
 case isFalse=>cases h
 split at h
 case h_2=>cases h
 rename_i ent1 bck hl1 hbn;split at h
 case h_2=>cases h
 split at h
 case h_2=>cases h
 injection h with h;subst h;obtain⟨b1,b2⟩:=zyl nbk bck hbn;refine⟨(λc hc=>by cases hc),λc hc=>?_,λc hc=>?_,λc hc=>?_⟩
 . have:c=b\/c∈ids bck:=by simpa[ids]using hc
   grind
 .simp_all
 grind
def zKx{k:Bool}{o:Oper}{L:aK}{r r0:Res}(h:toKill k r0=some r)(hs:Shape o L r0):Shape o L r:=by
 unfold toKill at h;split at h
 . rename_i b rest hf hk;split at h
   case isFalse=>cases h
   rename_i hc;simp only[zaf]at h;subst h;refine⟨λc hm=>?_,hs.set,(λc hm=>by cases hm),hs.re⟩;injection hm with hm;subst hm;refine⟨λhi=>?_,hs.frz b (by simp_all)⟩;obtain⟨p,hp,e⟩:=zbf.1 hi
   grind
 simp_all
def zls{P:Program}{o:Oper}{E:aa}{L:aK}{r:Res}(h:aPure P o E=some r):Shape o L r:=by
 unfold aPure at h
 repeat' (split at h)
 all_goals first|(injection h with h;subst h;exact Shape.none rfl rfl rfl)|cases h
def zCr{P:Program}{o:Oper}{L:aK}{t:TypeId}{m k x:AV}{r:Res}(h:aMSet P L t m k x=some r):Shape o L r:=by
 unfold aMSet at h;split at h
 case h_2=>cases h
 split at h
 case h_2=>cases h
 split at h
 case h_2=>cases h
 rename_i ent hl;split at h
 case isFalse=>cases h
 rename_i hc;split at h
 case h_2=>cases h
 split at h
 case isFalse=>cases h
 split at h
 case h_2=>cases h
 injection h with h;subst h;refine⟨(λb hk=>by cases hk),(λb hm=>by simp[ids]at hm;simp_all),λb hb=>?_,λb hb=>by cases hb⟩
 simp_all
def aop_shape{P:Program}{C:Cfg}{M:aO}{call:zcR}{o:Oper}{E:aa}{L:aK}{r:Res}(h:aop P C M call o E L=some r):Shape o L r:=by
 unfold aop at h;split at h
 all_goals try(first
  |exact zls h
  |(injection h with h;subst h;exact Shape.none rfl rfl rfl)
  |cases h)
 . repeat' (split at h)
   all_goals first|(injection h with h;subst h;exact Shape.none rfl rfl rfl)|cases h
 . split at h
   case h_2=>cases h
   rename_i d zero n hd hz hn;split at h
   case isFalse=>cases h
   split at h
   . unfold aArr at h
     repeat' (split at h)
     all_goals first|(injection h with h;subst h;exact Shape.one rfl (.inr hd) (λb hk=>by cases hk) rfl)|cases h
   injection h with h;subst h;exact Shape.one rfl (.inr hd) (λb hk=>by cases hk) rfl
 . split at h
   case h_2=>cases h
   rename_i d hd;split at h
   case isFalse=>cases h
   injection h with h;subst h;exact Shape.one rfl (.inr hd) (λb hk=>by cases hk) rfl
 . unfold aBuild at h
   repeat' (split at h)
   all_goals first|(injection h with h;subst h;exact Shape.none rfl rfl rfl)|cases h
 . split at h
   case h_2=>cases h
   rename_i d hd;split at h
   . split at h
     case isFalse=>cases h
     unfold zpv at h
     repeat' (split at h)
     all_goals first|(injection h with h;subst h;exact Shape.one rfl (.inr hd) (λb hk=>by cases hk) rfl)|cases h
   . unfold aLit at h
     repeat' (split at h)
     all_goals first|(injection h with h;subst h;exact Shape.none rfl rfl rfl)|cases h
 . unfold aLoad at h
   repeat' (split at h)
   all_goals first|(injection h with h;subst h;exact Shape.none rfl rfl rfl)|cases h
 . unfold aStore at h;split at h
   case h_2=>cases h
   split at h
   case h_2=>cases h
   rename_i ent n hl hs;split at h
   case isFalse=>cases h
   split at h
   case h_2=>cases h
   split at h
   case isFalse=>cases h
   injection h with h;subst h;exact Shape.one rfl (.inl (by simp[hl])) (λb hk=>by cases hk) rfl
 . repeat' (split at h)
   all_goals first|(injection h with h;subst h;exact Shape.none rfl rfl rfl)|cases h
 . repeat' (split at h)
   all_goals first|(injection h with h;subst h;exact Shape.none rfl rfl rfl)|cases h
 . unfold aField at h
   repeat' (split at h)
   all_goals first|(injection h with h;subst h;exact Shape.none rfl rfl rfl)|cases h
 . repeat' (split at h)
   all_goals first|(injection h with h;subst h;exact Shape.none rfl rfl rfl)|cases h
 . unfold aIndex at h
   repeat' (split at h)
   all_goals first|(injection h with h;subst h;exact Shape.none rfl rfl rfl)|cases h
 . repeat' (split at h)
   all_goals first|exact zls h|(injection h with h;subst h;exact Shape.none rfl rfl rfl)|cases h
 . split at h
   .exact zls h
   . unfold aSlice at h
     repeat' (split at h)
     all_goals first|(injection h with h;subst h;exact Shape.none rfl rfl rfl)|cases h
 . split at h
   .injection h with h;subst h;exact Shape.none rfl rfl rfl
   .cases h
 . split at h
   case h_2=>cases h
   rename_i d hd;split at h
   case isFalse=>cases h
   split at h
   . unfold aMakeL at h
     repeat' (split at h)
     all_goals first|(injection h with h;subst h;exact Shape.none rfl rfl rfl)|cases h
   unfold aMake at h
   repeat' (split at h)
   all_goals first|(injection h with h;subst h;exact Shape.one rfl (.inr hd) (λb hk=>by cases hk) rfl)|cases h
 . split at h
   case h_2=>cases h
   rename_i d s x t t' hd ha ht;split at h
   case isFalse=>cases h
   unfold znh at h
   repeat' (split at h)
   all_goals try(cases h;done)
   .injection h with h;subst h;exact Shape.one rfl (.inr hd) (λb hk=>by cases hk) rfl
   .rename_i hc;injection h with h;subst h;refine Shape.one rfl (.inr hd) (λb hk=>?_) rfl;injection hk with hk;subst hk;exact⟨hc.2.1,hc.1⟩
 . split at h
   case h_2=>cases h
   unfold aCopy at h;split at h
   case h_2=>cases h
   split at h
   case h_2=>cases h
   split at h
   case h_2=>cases h
   rename_i ent new hl hsrc;split at h
   case isFalse=>cases h
   injection h with h;subst h;exact Shape.one rfl (.inl (by simp[hl])) (λb hk=>by cases hk) rfl
 . split at h
   case h_2=>cases h
   unfold aClear at h;split at h
   case h_2=>cases h
   split at h
   case h_2=>cases h
   split at h
   case h_2=>cases h
   rename_i ent hl;split at h
   case isFalse=>cases h
   injection h with h;subst h;exact Shape.one rfl (.inl (by simp[hl])) (λb hk=>by cases hk) rfl
 . split at h
   case h_2=>cases h
   split at h
   .exact zls h
   . unfold aLen at h
     repeat' (split at h)
     all_goals first|(injection h with h;subst h;exact Shape.none rfl rfl rfl)|cases h
   . unfold aMLen at h
     repeat' (split at h)
     all_goals first|(injection h with h;subst h;exact Shape.none rfl rfl rfl)|cases h
   .cases h
 . split at h
   case h_2=>cases h
   unfold aMDel at h;split at h
   case h_2=>cases h
   split at h
   case h_2=>cases h
   split at h
   case h_2=>cases h
   rename_i ent hl;split at h
   case isFalse=>cases h
   split at h
   case h_2=>cases h
   injection h with h;subst h;exact Shape.one rfl (.inl (by simp[hl])) (λb hk=>by cases hk) rfl
 . split at h
   case h_2=>cases h
   rename_i d hd;split at h
   case isFalse=>cases h
   unfold aMkMap at h;split at h
   .injection h with h;subst h;exact Shape.one rfl (.inr hd) (λb hk=>by cases hk) rfl
   .cases h
 . unfold aMLook at h
   repeat' (split at h)
   all_goals first|(injection h with h;subst h;exact Shape.none rfl rfl rfl)|cases h
 .exact zCr h
 .exact zCr h
 . split at h
   case h_2=>cases h
   split at h
   .exact zls h
   . split at h
     . split at h
       .exact zKK h
       .cases h
     split at h
     . rename_i d hd;split at h
       case isFalse=>cases h
       rename_i hnone;split at h
       case h_2=>cases h
       rename_i r0 hc;rw[<-hd]at hc;refine zKx h (zCp (λd' hd'=>?_) hc);rw[hd]at hd';injection hd' with hd';subst hd';simpa using hnone
     .rename_i hd;rw[<-hd]at h;exact zCp (λd' hd'=>by rw[hd]at hd';cases hd') h
 . split at h
   . repeat' (split at h)
     all_goals first|(injection h with h;subst h;exact Shape.none rfl rfl rfl)|cases h
   .exact zls h
 . split at h
   . unfold aEq at h
     repeat' (split at h)
     all_goals first|(injection h with h;subst h;exact Shape.none rfl rfl rfl)|cases h
   . split at h
     . rename_i r0 hn;injection h with h;subst h;unfold nilCmp nilOp at hn
       repeat' (split at hn)
       all_goals first|(injection hn with hn;subst hn;exact Shape.none rfl rfl rfl)|cases hn
     .exact zls h
section
variable[Dr]
def frzO(bs:aO)(L:aK)(a:AV):AV:=match bs with
 |[]=>a
 |bs=>zeQ bs L 4 a
def killO(b:aZ)(a:AV):AV:=match b with
 |some b=>a.kill b 4
 |none=>a
def frzLO(bs:aO)(L:aK):Nat->Option Ent:=match bs with
 |[]=>L
 |bs=>frzL bs L
def killLO(b:aZ)(L:aK):Nat->Option Ent:=match b with
 |some b=>killL b L
 |none=>L
def killR:List Nat->AV->AV
 |[],a=>a
 |b::bs,a=>killR bs (a.kill b 4)
def killLR:List Nat->(Nat->Option Ent)->Nat->Option Ent
 |[],L=>L
 |b::bs,L=>killLR bs (killL b L)
def applyT(dst:aZ)(r:Res)(T:Nat->AV)(L:aK):Nat->AV:=λk=>if dst=some k then r.val else killR r.re (killO r.kill (frzO r.frz L (T k)))
def applyL(r:Res)(L:aK):Nat->Option Ent:=λc=>match look r.set c with
 |some e=>some e
 |none=>killLR r.re (killLO r.kill (frzLO r.frz L)) c
def zE2:∀(bs:aO) (st:St) (k:Nat),get (delAll bs st).t k=killR bs (get st.t k)
 |[],st,k=>rfl
 |b::bs,st,k=>by simp only[delAll,killR];rw[zE2 bs (del b st) k];simp only[del];rw[zox]
def zCI:∀(bs:aO) (st:St),look (delAll bs st).m=killLR bs (look st.m)
 |[],st=>rfl
 |b::bs,st=>by
   simp only[delAll,killLR];rw[zCI bs (del b st)];have:look (del b st).m=killL b (look st.m):=funext λc=>ziW b st.m c
   rw[this]
def ztc(p:Nat×Ent):∀(m:Mem) (c:Nat),(look m p.1).isSome=true->look (repM p m) c=if c=p.1 then some p.2 else look m c
 |[],c,h=>by simp[look]at h
 |(j,e)::r,c,h=>by
   simp only[repM];split
   . rename_i hj;simp only[look]
     simp_all
   . rename_i hj;simp only[look]at h ⊢;rw[if_neg hj]at h;by_cases hc:c=j
     .grind
     .rw[if_neg hc,if_neg hc];exact ztc p r c h
def look_setM(p:Nat×Ent)(m:Mem)(c:Nat):look (setM p m) c=if c=p.1 then some p.2 else look m c:=by
 unfold setM;split
 .rename_i e he;exact ztc p m c (by rw[he];rfl)
 .rfl
def zCJ:∀(l:ah) (m:Mem) (c:Nat),look (setAll l m) c=match look l c with|some e=>some e|none=>look m c
 |[],m,c=>rfl
 |(j,e)::r,m,c=>by
   simp only[setAll,look_setM,look];split
   .rfl
   .exact zCJ r m c
def get_apply(dst:aZ)(r:Res)(st:St)(k:Nat):get (applyR dst r st).t k=applyT dst r (get st.t) (look st.m) k:=by
 have h1:∀j,get (zd8 r.frz st).t j=frzO r.frz (look st.m) (get st.t j):=by
  intro j;unfold zd8 frzO
  cases r.frz with
  |nil=>rfl
  |cons b bs=>exact zxi _ _ _ _
 simp only[applyR,applyT]
 have h2':∀j,get (match r.kill with|some b=>del b (zd8 r.frz st)|none=>zd8 r.frz st).t j=killO r.kill (frzO r.frz (look st.m) (get st.t j)):=by
  intro j
  cases r.kill with
  |none=>exact h1 j
  |some b=>simp only[del,killO];rw[zox,h1]
 have h2:∀j,get (delAll r.re (match r.kill with|some b=>del b (zd8 r.frz st)|none=>zd8 r.frz st)).t j=killR r.re (killO r.kill (frzO r.frz (look st.m) (get st.t j))):=by intro j;rw[zE2,h2']
 cases dst with
 |none=>rw[if_neg (by simp)];exact h2 k
 |some d =>
   simp only[putO,get]
   grind
def look_apply(dst:aZ)(r:Res)(st:St)(c:Nat):look (applyR dst r st).m c=applyL r (look st.m) c:=by
 have h1:∀j,look (zd8 r.frz st).m j=frzLO r.frz (look st.m) j:=by
  intro j;unfold zd8 frzLO
  cases r.frz with
  |nil=>rfl
  |cons b bs=>simp only[frzL];exact zvv _ _ _ _
 simp only[applyR,applyL];rw[zCJ];split
 .rfl
 . rw[zCI]
   have h2:look (match r.kill with|some b=>del b (zd8 r.frz st)|none=>zd8 r.frz st).m=killLO r.kill (frzLO r.frz (look st.m)):=by
    funext c
    cases r.kill with
    |none=>exact h1 c
    |some b=>simp only[del,killLO];rw[ziW];have:look (zd8 r.frz st).m=frzLO r.frz (look st.m):=funext h1;rw[this]
   grind
def zDO:∀{m:ah} {b:Nat},(look m b).isSome=true↔b∈ids m:=by
 intro m b;constructor
 .intro h;obtain⟨e,he⟩:=zaT.1 h;exact zbf.2 ⟨_,zoD he,rfl⟩
 .exact zlB
section
variable{w0:World}{S0:aD}{κ0:Kap}{K:aD}{N:Nat}{S:aD}{κ:Kap}{T:Nat->AV}{L:aK}{a:Act}{w:World}
def tmps_put(a:Act)(dst:aZ)(y:Value)(hd:dstOk a.tmps.size dst=true)(k:Nat):(a.put dst y).tmps.getD k undef=if dst=some k then y else a.tmps.getD k undef:=by
 cases dst with
 |none=>simp[Act.put]
 |some d =>
   simp[dstOk]at hd;by_cases hk:d=k
   .subst hk;simp[Act.put,hd]
   . have:¬(some d=some k):=λe=>hk (by injection e)
     rw[if_neg this];simp[Act.put,Array.getElem?_setIfInBounds_ne hk]
def zCF:∀{bs:aO} {L:aK} {b:Nat},b ∉ bs->((killLR bs L b).isSome=true↔(L b).isSome=true)
 |[],L,b,_=>Iff.rfl
 |c::cs,L,b,h=>by
   have h1:b≠c:=λe=>h (by simp[e])
   have h2:b ∉ cs:=λe=>h (by simp[e])
   simp only[killLR];rw[zCF h2];simp[killL,h1]
def zGs:∀{bs:aO} {L:aK} {b:Nat} {e:Ent},killLR bs L b=some e->b ∉ bs->∃e0,L b=some e0/\e=(if e0.box then{ e0 with es:=e0.es.map λcs=>cs.map (killR bs) }else e0)
 |[],L,b,e,h,_=>⟨e,h,by
   have:killR []=id:=rfl
   simp[this]⟩
 |c::cs,L,b,e,h,hn=>by
   have h1:b≠c:=λe=>hn (by simp[e])
   have h2:b ∉ cs:=λe=>hn (by simp[e])
   simp only[killLR]at h;obtain⟨e1,h3,h4⟩:=zGs h h2;simp only[killL,h1,if_false]at h3
   cases hl:L b with
   |none=>simp[hl]at h3
   |some e0 =>
     simp[hl]at h3;refine⟨e0,rfl,?_⟩;rw[h4,<-h3];unfold killE;cases hb:e0.box
     .simp[hb]
     .simp[killR,zjn]
def zCG{S:aD}{κ:Kap}{w:World}:∀(bs:aO) {D D':aD} {a:AV} {x:Value},(∀c,D c->c ∉ bs->D' c)->VRel S κ D w a x->VRel S κ D' w (killR bs a) x
 |[],D,D',a,x,hD,h=>h.mono (λ_ h=>h) (λ_ _=>rfl) (λc hc=>hD c hc (by simp)) (λ_ _=>rfl)
 |b::bs,D,D',a,x,hD,h=>zCG bs (D:=λc=>D c/\c≠b) (λc hc hn=>hD c hc.1 (λhm=>by simp_all)) (zuL (λc hc hne=>⟨hc,hne⟩) 4 h)
def Good.apply{o:Oper}{r:Res}{y:Value}{w':World}{S':aD}{κ':Kap}(h:Good w0 S0 κ0 K N S κ T L a w)(hN:N<=1000)(hdst:dstOk N o.dst=true)
  (he:EffAt S κ (λb=>(L b).isSome=true) w S' κ' r y w') (hdis:Dis (λb=>(L b).isSome=true) r) (hsh:Shape o L r):Good w0 S0 κ0 K N S' κ' (applyT o.dst r T L) (applyL r L) (a.put o.dst y) w':=by
 let S1:Nat->Prop:=λg=>S g\/∃b c,b∈r.frz/\(L b).isSome=true/\κ b=some (g,c)
 have hblockLt:∀b g c,(L b).isSome=true->κ b=some (g,c)->g<w.heap.size/\¬S g:=by intro b g c hb hk;obtain⟨ent,hent⟩:=zaT.1 hb;have:=h.ents b ent hent;rw[hk]at this;exact⟨this.lt,this.notS⟩
 have hset:∀b,b∈ids r.set->¬(L b).isSome=true->b<1000:=by
  intro b hb hn;rcases hsh.set b hb with h1|h1
  .exact absurd h1 hn
  .rw[h1]at hdst;simp[dstOk]at hdst;omega
 have hDiff:∀b,(applyL r L b).isSome=true↔D1 (λb=>(L b).isSome=true) r b:=by
  intro b;have hl:(look r.set b).isSome=true↔b∈ids r.set:=zDO
  have hk0:(killLO r.kill (frzLO r.frz L) b).isSome=true↔((L b).isSome=true/\r.kill≠some b/\b ∉ r.frz):=by
   have h1:(frzLO r.frz L b).isSome=true↔(L b).isSome=true/\b ∉ r.frz:=by
    unfold frzLO
    cases hf:r.frz with
    |nil=>simp
    |cons c cs =>
      simp only[frzL];by_cases hm:(c::cs).contains b=true
      . have:b∈c::cs:=by simpa using hm
        simp[this]
      . have:b ∉ c::cs:=by simpa using hm
        simp only[zK,hm,Option.isSome_map,this,not_false_eq_true,and_true]
   unfold killLO
   cases hq:r.kill with
   |none=>simp[h1]
   |some c =>
     simp only[killL];by_cases hbc:b=c
     .subst hbc;simp
     . have:c≠b:=λe=>hbc e.symm
       simp[hbc,h1,this]
  have hk:b ∉ ids r.set->((killLR r.re (killLO r.kill (frzLO r.frz L)) b).isSome=true↔((L b).isSome=true/\r.kill≠some b/\b ∉ r.frz)):=λhn=>by
   rw[<-hk0];have hre:b ∉ r.re:=λhm=>hn (he.res b hm)
   exact zCF hre
  unfold applyL D1
  cases hq:look r.set b with
  |some e=>have:b∈ids r.set:=hl.1 (by simp[hq]);simp[this]
  |none =>
    have:b ∉ ids r.set:=λhm=>by have:=hl.2 hm;rw[hq]at this;cases this
    simp only[this,or_false];exact hk this
 have hS1w:∀g,S1 g->w'.heap[g]?=w.heap[g]?:=by
  intro g hg;rcases hg with hg|⟨b,c,hb,hd,hk⟩
  .exact he.blk g (h.slt g hg) (λb c _ hd hk=>(hblockLt b g c hd hk).2 hg)
  . refine he.blk g (hblockLt b g c hd hk).1 (λb' c' hb' hd' hk'=>?_);have:b'=b:=h.inj b' b g c' c hd' hd hk' hk;subst this;obtain⟨_,h2,h3⟩:=hdis b' hb;rcases hb' with hm|hm
    .exact h2 hm
    .exact h3 hm
 have hS1':∀g,S1 g->S' g:=by
  intro g hg;rcases hg with hg|⟨b,c,hb,_,hk⟩
  .exact he.sup g hg
  .exact he.sfrz b hb g c hk
 have hDold:∀b,(L b).isSome=true->r.kill≠some b->b ∉ r.frz->(applyL r L b).isSome=true:=λb h1 h2 h3=>(hDiff b).2 (.inl ⟨h1,h2,h3⟩)
 have hval:∀(av:AV) (x:Value),VRel S κ (λb=>(L b).isSome=true) w av x->VRel S' κ' (λb=>(applyL r L b).isSome=true) w' (killR r.re (killO r.kill (frzO r.frz L av))) x:=by
  intro av x hv
  have h1:VRel S1 κ (λb=>(L b).isSome=true/\b ∉ r.frz) w (frzO r.frz L av) x:=by
   cases hf:r.frz with
   |nil=>exact hv.mono (λ_ h=>.inl h) (λ_ _=>rfl) (λb hb=>⟨hb,by simp⟩) (λ_ _=>rfl)
   |cons q qs =>
     refine zKk (bs:=q::qs) h.ents (λ_ h=>.inl h) (λb hb hd g c hk=>.inr ⟨b,c,by rw[hf];exact hb,hd,hk⟩) (λc hc hn=>⟨hc,?_⟩) 4 hv;intro hm;have:(q::qs).contains c=true:=by simpa using hm
     rw[this]at hn;cases hn
  have h2:VRel S1 κ (λb=>(L b).isSome=true/\r.kill≠some b/\b ∉ r.frz) w (killO r.kill (frzO r.frz L av)) x:=by
   cases hk:r.kill with
   |some b=>exact zuL (λc hc hne=>⟨hc.1,λe=>hne (by injection e with e;exact e.symm),hc.2⟩) 4 h1
   |none=>exact h1.mono (λ_ h=>h) (λ_ _=>rfl) (λb hb=>⟨hb.1,by simp,hb.2⟩) (λ_ _=>rfl)
  have h3:VRel S1 κ (λb=>((L b).isSome=true/\r.kill≠some b/\b ∉ r.frz)/\b ∉ r.re) w (killR r.re (killO r.kill (frzO r.frz L av))) x:=zCG r.re (λc hc hn=>⟨hc,hn⟩) h2;exact h3.mono hS1' hS1w (λb hb=>hDold b hb.1.1 hb.1.2.1 hb.1.2.2) (λb hb=>he.kold b hb.1.1 hb.2)
 have hcases:∀b,(applyL r L b).isSome=true->((L b).isSome=true/\b ∉ r.re/\κ' b=κ b)\/(((L b).isSome=true->b∈r.re)/\b∈ids r.set):=by
  intro b hb;by_cases hre:b∈r.re
  .exact .inr ⟨λ_=>hre,he.res b hre⟩
  by_cases hl:(L b).isSome=true
  .exact .inl ⟨hl,hre,he.kold b hl hre⟩
  . rcases(hDiff b).1 hb with h1|h1
    .exact absurd h1.1 hl
    .exact .inr ⟨λh=>absurd h hl,h1⟩
 exact{
  base:=h.base
  defers:=by cases o.dst<;>exact h.defers
  size:=by have:=h.size;cases hd:o.dst<;>simp[Act.put,this]
  os:=he.os.trans h.os
  tape:=he.tape.trans h.tape
  output:=h.output.trans he.output
  grow:=za5 h.grow he.size
  old:=λg hg hK=>by
   rw[he.blk g (zbO hg h.grow) ?_]
   .exact h.old g hg hK
   . intro b c hb hd hk;by_cases hb1:b<1000
     . rcases h.own b g c hb1 hd hk with q|⟨b',c',_,q2,q3⟩
       .omega
       .exact hK b' c' q2 q3
     .have h1:=h.par b (by omega);exact hK b c (h.parK b (by omega) hd) (by rw[<-h1];exact hk)
  sup:=λg hg=>he.sup g (h.sup g hg)
  snew:=λg hg=>by
   rcases he.snew g hg with h1|h1|⟨b,c,hb,hd,hk⟩
   .exact h.snew g h1
   .exact .inr (.inl (za5 h.grow h1))
   .exact .inr (h.own b g c (hb.elim (hsh.frz b) (λq=>q.elim (λq=>(hsh.kill b q).2) (hsh.re b))) hd hk)
  slt:=he.slt
  par:=λb hb=>by
   rw[<-h.par b hb];by_cases hm:b∈ids r.set
   . by_cases hd:(L b).isSome=true
     .exact he.kold b hd (λhr=>by have:=hsh.re b hr;omega)
     .have:=hset b hm hd;omega
   .exact he.kout b hm
  parK:=λb hb hs=>by
   rcases hcases b hs with⟨h1,_⟩|⟨h1,h2⟩
   .exact h.parK b hb h1
   . by_cases hd:(L b).isSome=true
     .have:=hsh.re b (h1 hd);omega
     .have:=hset b h2 hd;omega
  own:=λb g c hb hs hk=>by
   rcases hcases b hs with⟨h1,_,h2⟩|⟨h1,h2⟩
   .rw[h2]at hk;exact h.own b g c hb h1 hk
   . rcases he.knew b h1 h2 g c hk with h3|⟨b0,c0,h3,h4,h5⟩
     .exact .inl (za5 h.grow h3)
     .exact h.own b0 g c0 (h3.elim (λq=>(hsh.kill b0 q).2) (hsh.re b0)) h4 h5
  inj:=by
   have one:∀b b' g c c',((L b).isSome=true->b∈r.re)->b∈ids r.set->(L b').isSome=true->b' ∉ r.re->(applyL r L b').isSome=true->κ' b=some (g,c)->κ b'=some (g,c')->False:=by
    intro b b' g c c' h1 h2 h3 hnr h3' h4 h5;rcases he.knew b h1 h2 g c h4 with h6|⟨b0,c0,h6,h7,h8⟩
    .have:=(hblockLt b' g c' h3 h5).1;omega
    . have:b'=b0:=h.inj b' b0 g c' c0 h3 h7 h5 h8;subst this;rcases h6 with h6|h6
      . rcases(hDiff b').1 h3' with h9|h9
        .exact h9.2.1 h6
        .exact(hsh.kill b' h6).1 h9
      .exact hnr h6
   intro b b' g c c' hs hs' hk hk';rcases hcases b hs with⟨h1,hr1,h2⟩|⟨h1,h2⟩
   . rcases hcases b' hs' with⟨h3,_,h4⟩|⟨h3,h4⟩
     .rw[h2]at hk;rw[h4]at hk';exact h.inj b b' g c c' h1 h3 hk hk'
     .rw[h2]at hk;exact(one b' b g c' c h3 h4 h1 hr1 hs hk' hk).elim
   . rcases hcases b' hs' with⟨h3,hr3,h4⟩|⟨h3,h4⟩
     .rw[h4]at hk';exact(one b b' g c c' h1 h2 h3 hr3 hs' hk hk').elim
     .exact he.one b b' h1 h3 h2 h4 g c c' hk hk'
  ents:=λb ent hb=>by
   have hDD:∀b,D1 (λb=>(L b).isSome=true) r b->(applyL r L b).isSome=true:=λb=>(hDiff b).2
   simp only[applyL]at hb
   cases hq:look r.set b with
   |some e=>simp only[hq]at hb;injection hb with hb;subst hb;have hE:=he.ents b e (zoD hq);refine hE.mono (λ_ h=>h) (λ_ _=>rfl) hDD (λ_ _=>rfl) (λg c hk=>⟨rfl,?_⟩);rw[hk]at hE;exact hE.notS
   |none =>
     simp only[hq]at hb;have hnm:b ∉ ids r.set:=λhm=>by have:=zlB hm;rw[hq]at this;cases this
     have hnre:b ∉ r.re:=λhm=>hnm (he.res b hm)
     obtain⟨entR,hb,hentR⟩:=zGs hb hnre
     obtain⟨e0,hl0,hkn,hfn,hent0⟩:∃e0,L b=some e0/\r.kill≠some b/\b ∉ r.frz/\entR=(if e0.box then{ e0 with es:=e0.es.map λcs=>cs.map λa=>killO r.kill (frzO r.frz L a) }else e0):=by
      have hf1:∀e1,frzLO r.frz L b=some e1->∃e0,L b=some e0/\b ∉ r.frz/\e1=(if e0.box then{ e0 with es:=e0.es.map λcs=>cs.map λa=>frzO r.frz L a }else e0):=by
       intro e1 h1;unfold frzLO at h1
       cases hf:r.frz with
       |nil=>simp only[hf]at h1;refine⟨e1,h1,by simp,?_⟩;have:(λa=>frzO ([]:List Nat) L a)=id:=rfl;simp[this]
       |cons c cs =>
         simp only[hf,frzL]at h1;split at h1
         .cases h1
         . rename_i hm
           cases hl:L b with
           |none=>simp[hl]at h1
           |some e0=>simp[hl]at h1;exact⟨e0,rfl,by simpa using hm,h1.symm⟩
      unfold killLO at hb
      cases hk:r.kill with
      |none=>simp only[hk]at hb;obtain⟨e0,h1,h2,h3⟩:=hf1 entR hb;exact⟨e0,h1,by simp,h2,h3⟩
      |some c =>
        simp only[hk,killL]at hb;split at hb
        .cases hb
        . rename_i hne
          cases hfl:frzLO r.frz L b with
          |none=>simp[hfl]at hb
          |some e1 =>
            simp[hfl]at hb;obtain⟨e0,h1,h2,h3⟩:=hf1 e1 hfl;refine⟨e0,h1,λe=>hne (by injection e with e;exact e.symm),h2,?_⟩;rw[<-hb,h3];unfold killE;cases hbx:e0.box
            .simp[hbx]
            .simp[killO,zjn]
     have hent:ent=(if e0.box then{ e0 with es:=e0.es.map λcs=>cs.map λa=>killR r.re (killO r.kill (frzO r.frz L a)) }else e0):=by
      rw[hentR,hent0];cases hbx:e0.box
      .simp[hbx]
      .simp[zjn]
     subst hent;have hlb:(L b).isSome=true:=by simp[hl0]
     have hE:=h.ents b e0 hl0;rw[he.kold b hlb hnre]
     have hun:∀g c,κ b=some (g,c)->w'.heap[g]?=w.heap[g]?/\¬S' g:=by
      intro g c hk;refine⟨he.blk g (hblockLt b g c hlb hk).1 (λb' c' hb' hd' hk'=>?_),λhs=>?_⟩
      . have:b'=b:=h.inj b' b g c' c hd' hlb hk' hk;subst this;rcases hb' with hm|hm
        .exact hnm hm
        .exact hkn hm
      . rcases he.snew g hs with h1|h1|⟨b',c',hb',hd',hk'⟩
        .exact(hblockLt b g c hlb hk).2 h1
        .have:=(hblockLt b g c hlb hk).1;omega
        .have:b'=b:=h.inj b' b g c' c hd' hlb hk' hk;subst this;exact hb'.elim hfn (λq=>q.elim hkn hnre)
     cases hbx:e0.box with
     |false =>
       simp only[zK];refine⟨λhce=>?_,λhce=>(hE.2 hce).mono (λg hg=>he.sup g hg) (λg hg=>hS1w g (.inl hg)) hun⟩;obtain⟨z1,z2⟩:=hE.1 hce;refine⟨z1,?_⟩
       cases hkb:κ b with
       |none=>rw[hkb]at z2;exact z2
       |some gc=>obtain⟨g,c⟩:=gc;rw[hkb]at z2;obtain⟨cells,q1,q2,q3,q4,q5,q6⟩:=z2;obtain⟨u1,u2⟩:=hun g c hkb;refine⟨cells,u1.trans q1,q2,q3,q4,u2,λi j cs av hi hj=>?_⟩;obtain⟨u,v1,v2,_,v4⟩:=q6 i j cs av hi hj;exact⟨u,v1,v2,(λhb'=>by rw[hbx]at hb';cases hb'),λhb'=>(v4 hb').mono (λg hg=>he.sup g hg) (λg hg=>hS1w g (.inl hg))⟩
     |true =>
       simp only[if_true];obtain⟨z1,z2⟩:=hE.1 (.inl hbx);refine EntAt.of (.inl rfl) ⟨λcs hcs=>?_,?_⟩
       .simp at hcs;obtain⟨cs',hcs',rfl⟩:=hcs;simpa using z1 cs' hcs'
       . cases hkb:κ b with
         |none=>rw[hkb]at z2;rw[hbx]at z2;exact absurd z2.2 (by simp)
         |some gc=>obtain⟨g,c⟩:=gc;rw[hkb]at z2;obtain⟨cells,q1,q2,q3,q4,q5,q6⟩:=z2;obtain⟨u1,u2⟩:=hun g c hkb;refine⟨cells,u1.trans q1,q2,by simpa using q3,q4,u2,λi j cs av hi hj=>?_⟩;simp at hi;obtain⟨cs',hcs',rfl⟩:=hi;simp at hj;obtain⟨a',ha',rfl⟩:=hj;obtain⟨u,v1,v2,v3,_⟩:=q6 i j cs' a' hcs' ha';exact⟨u,v1,v2,λ_=>hval a' u (v3 hbx),λhb'=>by cases hb'⟩
  slots:=λk=>by
   rw[tmps_put a o.dst y (by rw[h.size];exact hdst) k];simp only[applyT];split
   .exact he.val.mono (λ_ h=>h) (λ_ _=>rfl) (λb=>(hDiff b).2) (λ_ _=>rfl)
   .exact hval _ _ (h.slots k) }
end
end
def znc{α β:Type}{f g:α->List β}:∀{l:List α},(∀a∈l,f a=g a)->l.flatMap f=l.flatMap g
 |[],_=>rfl
 |a::l,h=>by simp only[zem];rw[h a (by simp),znc (λb hb=>h b (by simp[hb]))]
def zrx{α β:Type}{f g:α->Option β}:∀{l:List α},(∀a∈l,f a=g a)->mapO f l=mapO g l
 |[],_=>rfl
 |a::l,h=>by simp only[mapO];rw[h a (by simp),zrx (λb hb=>h b (by simp[hb]))]
section
variable{L L':aK}
def zAW:∀(k:Nat) (a:AV),(∀b∈a.ids L k,L b=L' b)->a.ids L k=a.ids L' k:=by
 intro k
 induction k with
 |zero=>intro a _;rfl
 |succ k ih =>
   intro a h
   cases a with
   |agg cs=>exact znc λc hc=>ih c λb hb=>h b (by simp only[AV.ids];grind)
   |tup cs=>exact znc λc hc=>ih c λb hb=>h b (by simp only[AV.ids];grind)
   |fn f cs=>exact znc λc hc=>ih c λb hb=>h b (by simp only[AV.ids];grind)
   |loc c z i o =>
     have hc:=h c (by simp[AV.ids]);simp only[AV.ids]at h ⊢;rw[<-hc]
     cases hl:L c with
     |none=>rfl
     |some ent =>
       simp only[hl]at h ⊢;split
       . rename_i hb;rw[if_pos hb]at h
         cases hi:ent.es[i]? with
         |none=>rfl
         |some cs=>simp only[hi]at h ⊢;congr 1;exact znc λav hav=>ih av λb hb=>h b (zbG _ (zbM.2 ⟨av,hav,hb⟩))
       .rfl
   |_=>rfl
def ids_mono:∀(k:Nat) (a:AV),∀b∈a.ids L k,b∈a.ids L (k+1):=by
 intro k
 induction k with
 |zero=>intro a b hb;simp[AV.ids]at hb
 |succ k ih =>
   intro a b hb
   cases a with
   |agg cs=>obtain⟨c,hc,hb⟩:=zbM.1 hb;exact zbM.2 ⟨c,hc,ih c b hb⟩
   |tup cs=>obtain⟨c,hc,hb⟩:=zbM.1 hb;exact zbM.2 ⟨c,hc,ih c b hb⟩
   |fn f cs=>obtain⟨c,hc,hb⟩:=zbM.1 hb;exact zbM.2 ⟨c,hc,ih c b hb⟩
   |row c z o n=>simpa[AV.ids]using hb
   |map c=>simpa[AV.ids]using hb
   |loc c z i o =>
     simp only[AV.ids,zat]at hb ⊢;rcases hb with hb|hb
     .exact .inl hb
     . refine .inr ?_
       cases hl:L c with
       |none=>simp[hl]at hb
       |some ent =>
         simp only[hl]at hb ⊢;split at hb
         . rename_i hbx;rw[if_pos hbx]
           cases hi:ent.es[i]? with
           |none=>simp[hi]at hb
           |some cs=>simp only[hi]at hb ⊢;obtain⟨av,hav,hb⟩:=zbM.1 hb;exact zbM.2 ⟨av,hav,ih av b hb⟩
         .cases hb
   |_=>simp[AV.ids]at hb
def zyR:∀(k:Nat) (a:AV),(∀b∈a.ids L k,L b=L' b)->snap L k a=snap L' k a:=by
 intro k
 induction k with
 |zero=>intro a _;rfl
 |succ k ih =>
   intro a h
   cases a with
   |agg cs=>simp only[snap];rw[zrx λc hc=>ih c (λb hb=>h b (by simp only[AV.ids];grind))]
   |tup cs=>simp only[snap];rw[zrx λc hc=>ih c (λb hb=>h b (by simp only[AV.ids];grind))]
   |fn f cs=>simp only[snap];rw[zrx λc hc=>ih c (λb hb=>h b (by simp only[AV.ids];grind))]
   |row b z off n=>simp only[snap];rw[h b (by simp[AV.ids])]
   |map b=>simp only[snap];rw[h b (by simp[AV.ids])]
   |loc b z i o =>
     have hb:=h b (by simp[AV.ids]);simp only[snap];rw[<-hb]
     cases hl:L b with
     |none=>rfl
     |some ent =>
       simp only;split
       . cases hi:ent.es[i]? with
         |none=>rfl
         |some cs =>
           simp only
           cases hbx:ent.box with
           |true =>
             simp only[if_true];rw[zrx λav hav=>?_];refine ih av (λc hc=>h c ?_);simp only[AV.ids,hl,hbx,if_true,hi]
             grind
           |false=>rfl
       .rfl
   |_=>rfl
def zIY{a:AV}(h:∀b∈a.ids L 5,L b=L' b){b z:Nat}{f:Nat->AV}(hs:zsH a=some (b,z,f)):L b=L' b:=by
 refine h b ?_;unfold zsH at hs;split at hs
 .injection hs with hs;injection hs with h1 _;subst h1;simp[AV.ids]
 .injection hs with hs;injection hs with h1 _;subst h1;simp[AV.ids]
 .cases hs
def zxW{wr:aO}:∀(args:aN) (k:Nat),(∀a∈args,∀b∈a.ids L 5,L b=L' b)->zet L wr k args=zet L' wr k args
 |[],_,_=>rfl
 |a::r,k,h=>by
   simp only[zet];rw[zxW r (k+1) (λc hc=>h c (by simp[hc]))];have ha:=h a (by simp);rw[zyR 5 a ha,zAW 5 a ha]
   cases zet L' wr (k+1) r with
   |none=>rfl
   |some q =>
     obtain⟨bc,ms,bk,fz⟩:=q;simp only;split
     . cases a with
       |loc b z i o =>
         have hb:=ha b (by simp[AV.ids])
         cases i with
         |zero=>cases o with
           |zero=>simp only;rw[hb]
           |succ o=>rfl
         |succ i=>rfl
       |row b z off n=>simp only;rw[ha b (by simp[AV.ids])]
       |map b=>simp only;rw[ha b (by simp[AV.ids])]
       |agg cs =>
         simp only
         cases hs:zsH (.agg cs)with
         |none=>rfl
         |some q=>obtain⟨b,z,f⟩:=q;simp only;rw[zIY ha hs]
       |_=>rfl
     . split
       . cases a with
         |row b z off n =>
           have hb:=ha b (by simp[AV.ids])
           cases off with
           |zero=>simp only;rw[hb]
           |succ o=>rfl
         |_=>rfl
       .rfl
def zCo{C:Cfg}{call:zcR}{d:aZ}{f:FuncId}{args:aN}(h:∀a∈args,∀b∈a.ids L 5,L b=L' b):aCall C call L d f args=aCall C call L' d f args:=by unfold aCall;rw[zxW args 0 h]
def zyH:∀(cs:aN) (q:Nat),(∀a∈cs,∀b∈a.ids L 4,L b=L' b)->nest L q cs=nest L' q cs
 |[],_,_=>rfl
 |a::r,q,h=>by
   simp only[nest];rw[zyH r q (λc hc=>h c (by simp[hc])),zyH r (q+1) (λc hc=>h c (by simp[hc]))];have ha:=h a (by simp);split
   .rfl
   . cases a with
     |row b z off n =>
       cases off with
       |zero=>simp only;rw[ha b (by simp[AV.ids])]
       |succ o=>rfl
     |map b=>simp only;rw[ha b (by simp[AV.ids])]
     |_=>rfl
def zCy{k0:Nat}{x0:AV}:∀(args:aN) (k:Nat),(∀a∈args,∀b∈a.ids L 5,L b=L' b)->dArgs L k0 x0 k args=dArgs L' k0 x0 k args
 |[],_,_=>rfl
 |a::r,k,h=>by simp only[dArgs];rw[zCy r (k+1) (λc hc=>h c (by simp[hc]))];have ha:=h a (by simp);rw[zyR 5 a ha,zAW 5 a ha]
def zKJ{call:zcR}{f:FuncId}{k0:Nat}{args:aN}(h:∀a∈args,∀b∈a.ids L 5,L b=L' b):aDeep call L f k0 args=aDeep call L' f k0 args:=by
 unfold aDeep
 cases hk:args[k0]? with
 |none=>simp only
 |some a =>
   have ha:=h a (zau hk)
   cases a with
   |loc b z i o =>
     cases i with
     |succ i=>simp only
     |zero=>cases o with
       |succ o=>simp only
       |zero =>
         simp only;have hb:=ha b (by simp[AV.ids]);rw[<-hb]
         cases hl:L b with
         |none=>simp only
         |some ent =>
           simp only;by_cases hbx:ent.box=true
           . rw[if_pos hbx,if_pos hbx]
             cases hes:ent.es with
             |nil=>simp only
             |cons cs r=>cases r with
               |cons _ _=>simp only
               |nil =>
                 simp only
                 have hn:nest L 900 cs=nest L' 900 cs:=zyH cs 900 (λc hc q hq=>ha q (by
                  simp only[AV.ids,hl,hbx,if_true,hes,zbI,zfq]
                  exact zbG _ (zbM.2 ⟨c,hc,hq⟩)))
                 rw[hn,zCy args 0 h]
           simp_all
   |_=>simp only
def zG4{z:Nat}{a:AV}(h:∀b∈a.ids L 5,L b=L' b):srcOf L z a=srcOf L' z a:=by
 cases a with
 |row b z' off n=>simp only[srcOf];rw[h b (by simp[AV.ids])]
 |v x=>cases x with
   |slice A l c=>cases A<;>cases l<;>cases c<;>rfl
   |_=>rfl
 |_=>rfl
def zGz{a:AV}(h:∀b∈a.ids L 5,L b=L' b):mesOf L a=mesOf L' a:=by
 cases a with
 |map b=>simp only[mesOf];rw[h b (by simp[AV.ids])]
 |v x=>cases x with
   |map r=>cases r<;>rfl
   |_=>rfl
 |_=>rfl
def zCq{P:Program}{t:TypeId}{m k x:AV}(hm:∀b∈m.ids L 5,L b=L' b)(hx:∀b∈x.ids L 5,L b=L' b):aMSet P L t m k x=aMSet P L' t m k x:=by
 unfold aMSet;have e1:∀et,snap L 5 (nrm P et x)=snap L' 5 (nrm P et x):=λet=>zyR 5 _ (λb hb=>hx b (by rw[nrm_ids]at hb;exact hb))
 have e2:x.ids L 5=x.ids L' 5:=zAW 5 x hx
 cases m with
 |map b=>simp only[e1,e2];rw[hm b (by simp[AV.ids])]
 |_=>rfl
def aop_congr{P:Program}{C:Cfg}{M:aO}{call:zcR}{o:Oper}{E E':aa}(hE:∀x∈o.op.operands,E x=E' x)(hL:∀b∈zpd o E L,L b=L' b):aop P C M call o E L=aop P C M call o E' L':=by
 have hd:∀d,o.dst=some d->L d=L' d:=λd h=>hL d (by simp[zpd,h])
 have hx6:stills o.op=false->∀x∈o.op.operands,∀b∈(E x).ids L 6,L b=L' b:=λhs x hx b hb=>hL b (by
  simp only[zK,zpd,zaX,hs]
  exact .inr (zbM.2 ⟨x,by simpa using hx,hb⟩))
 have hx:stills o.op=false->∀x∈o.op.operands,∀b∈(E x).ids L 5,L b=L' b:=λhs x hx b hb=>hx6 hs x hx b (ids_mono 5 _ b hb)
 have hpure:(∀cs b,o.op≠.select cs b)->aPure P o E=aPure P o E':=by
  intro hs;unfold aPure
  have h1:o.op.operands.toList.all (λx=>(E x).toVal.isSome)=o.op.operands.toList.all (λx=>(E' x).toVal.isSome):=by rw[zek,zbd,zbd];exact⟨λh x hx=>by rw[<-hE x (by simpa using hx)];exact h x hx,λh x hx=>by rw[hE x (by simpa using hx)];exact h x hx⟩
  rw[h1,execOp_congr o hs (λx hx=>by rw[hE x hx])]
 have hparts:∀ps:Array (Nat×Operand),(∀p∈ps,p.2∈o.op.operands)->(ps.toList.map λp=>(p.1,E p.2))=(ps.toList.map λp=>(p.1,E' p.2)):=λps hp=>zc2 λp hm=>by rw[hE p.2 (hp p (by simpa using hm))]
 have hpartsN:∀(t:TypeId) (ps:Array (Nat×Operand)),(∀p∈ps,p.2∈o.op.operands)->(ps.toList.map λp=>(p.1,nrmP P t (E p.2)))=(ps.toList.map λp=>(p.1,nrmP P t (E' p.2))):=λt ps hp=>zc2 λp hm=>by rw[hE p.2 (hp p (by simpa using hm))]
 have hopt:∀q:Option Operand,(∀y,q=some y->y∈o.op.operands)->q.map E=q.map E':=λq hq=>by
  cases q with
  |none=>rfl
  |some y=>simp only[zcM];rw[hE y (hq y rfl)]
 have hlist:∀l:List Operand,(∀x∈l,x∈o.op.operands)->l.map E=l.map E':=λl hl=>zc2 λx hm=>hE x (hl x hm)
 unfold aop
 cases ho:o.op with
 |move x=>simp only;rw[hE x (by simp[ho,Op.operands])]
 |assign x=>simp only;rw[hE x (by simp[ho,Op.operands])]
 |pick c a b=>simp only;rw[hE c (by simp[ho,Op.operands]),hE a (by simp[ho,Op.operands]),hE b (by simp[ho,Op.operands])]
 |alloc t =>
   simp only
   cases hq:o.dst with
   |none=>rfl
   |some d=>cases zeroB P t<;>cases szB P t<;>first|rfl|(simp only;rw[hd d hq])
 |box t x =>
   simp only;rw[hE x (by simp[ho,Op.operands])]
   cases hq:o.dst with
   |none=>rfl
   |some d=>simp only;rw[hd d hq]
 |build t ps=>simp only;rw[hparts ps (λp hp=>by simp[ho,Op.operands];exact⟨p.1,by simpa using hp⟩)]
 |buildSlice t len ps =>
   simp only;rw[hpartsN t ps (λp hp=>by simp[ho,Op.operands];exact⟨p.1,by simpa using hp⟩)]
   cases hq:o.dst with
   |none=>rfl
   |some d=>simp only;rw[hd d hq]
 |load t a =>
   simp only;rw[<-hE a (by simp[ho,Op.operands])];have h:=hx (by rw[ho];rfl) a (by simp[ho,Op.operands])
   cases hq:E a with
   |loc b z i oo=>rw[hq]at h;simp only[aLoad];rw[h b (by simp[AV.ids])]
   |_=>rfl
 |store t a x =>
   simp only;rw[<-hE a (by simp[ho,Op.operands]),<-hE x (by simp[ho,Op.operands])];have h:=hx (by rw[ho];rfl) a (by simp[ho,Op.operands])
   cases hq:E a with
   |loc b z i oo =>
     rw[hq]at h;have hb:=h b (by simp[AV.ids]);have hn:nrmS P L t (.loc b z i oo) (E x)=nrmS P L' t (.loc b z i oo) (E x):=by simp only[nrmS];rw[hb]
     rw[hn];generalize nrmS P L' t (.loc b z i oo) (E x)=q;simp only[aStore];rw[hb]
   |_=>rfl
 |nilCheck x=>simp only;rw[hE x (by simp[ho,Op.operands])]
 |extract x i=>simp only;rw[hE x (by simp[ho,Op.operands])]
 |fieldAddr s x f=>simp only;rw[hE x (by simp[ho,Op.operands])]
 |field s x f=>simp only;rw[hE x (by simp[ho,Op.operands])]
 |indexAddr t x ix=>simp only;rw[hE x (by simp[ho,Op.operands]),hE ix (by simp[ho,Op.operands])]
 |index t x ix=>simp only;rw[hE x (by simp[ho,Op.operands]),hE ix (by simp[ho,Op.operands]),hpure (by simp[ho])]
 |slice t x lo hi mx =>
   cases mx with
   |none=>simp only;rw[hE x (by simp[ho,Op.operands]),hpure (by simp[ho]),hopt lo (λy hy=>by simp[ho,Op.operands,hy]),hopt hi (λy hy=>by simp[ho,Op.operands,hy])]
   |some m=>simp only;exact hpure (by simp[ho])
 |makeFunc fn first cap =>
   cases fn with
   |func f=>simp only;rw[hlist cap.toList (λx hm=>by simp[ho,Op.operands];exact .inr (by simpa using hm))]
   |_=>simp only;exact hpure (by simp[ho])
 |makeSlice t l c =>
   simp only;rw[hE l (by simp[ho,Op.operands]),hE c (by simp[ho,Op.operands])]
   cases hq:o.dst with
   |none=>rfl
   |some d=>simp only;rw[hd d hq]
 |call c =>
   obtain⟨callee,args,argTypes⟩:=c
   cases callee with
   |value g =>
     simp only;rw[<-hE g (by simp[ho,Op.operands,Call.operands]),<-hpure (by simp[ho])];have hargs:=hlist args.toList (λx hm=>by simp[ho,Op.operands,Call.operands];exact .inr (by simpa using hm));rw[<-hargs];have hg:=hx6 (by rw[ho];rfl) g (by simp[ho,Op.operands,Call.operands])
     cases hq:E g with
     |fn f cap =>
       simp only
       have hcall:∀a∈nrmA P (rawT C f argTypes) (args.toList.map E)++cap,∀b∈a.ids L 5,L b=L' b:=by
        intro a ha b hb;rcases zaX.1 ha with ha|ha
        . obtain⟨j,hj⟩:=zdm.1 ha;obtain⟨a0,ha0,hc⟩:=zyJ P _ _ j a hj
          have hb0:b∈a0.ids L 5:=by
           rcases hc with rfl|⟨t,rfl⟩
           .exact hb
           .rw[nrm_ids]at hb;exact hb
          obtain⟨x,hxm,rfl⟩:=zbf.1 (zau ha0);replace hb:=hb0;exact hx (by rw[ho];rfl) x (by simp[ho,Op.operands,Call.operands];exact .inr (by simpa using hxm)) b hb
        .rw[hq]at hg;exact hg b (by simp only[AV.ids];exact zbM.2 ⟨a,ha,hb⟩)
       cases hdp:C.dp f with
       |some k0 =>
         simp only;rw[zKJ hcall]
         cases hdq:o.dst with
         |none=>rfl
         |some d =>
           have e:dstOut L (some d)=dstOut L' (some d):=by show(L d).isNone=(L' d).isNone;rw[hd d hdq]
           rw[e]
       |none =>
         cases hdq:o.dst with
         |none=>simp only;rw[zCo hcall]
         |some d=>simp only;rw[hd d hdq,zCo hcall]
     |_=>rfl
   |invoke r m=>simp only;exact hpure (by simp[ho])
   |builtin bi =>
     cases bi with
     |append =>
       simp only
       cases hdq:o.dst with
       |none=>rfl
       |some d =>
         cases ha:args.toList with
         |nil=>rfl
         |cons s l=>cases l with
           |nil=>rfl
           |cons x l=>cases l with
             |cons _ _=>rfl
             |nil=>cases ht:argTypes.toList with
               |nil=>rfl
               |cons t l=>cases l with
                 |nil=>rfl
                 |cons t' l=>cases l with
                   |cons _ _=>rfl
                   |nil =>
                     simp only;rw[hd d hdq];have hs:=hE s (by simp[ho,Op.operands,Call.operands];rw[<-zbX,ha];simp);have hxx:=hE x (by simp[ho,Op.operands,Call.operands];rw[<-zbX,ha];simp);have is:=hx (by rw[ho];rfl) s (by simp[ho,Op.operands,Call.operands];rw[<-zbX,ha];simp);have ix:=hx (by rw[ho];rfl) x (by simp[ho,Op.operands,Call.operands];rw[<-zbX,ha];simp);rw[<-hs,<-hxx];have hsrc:∀z,srcOf L z (E x)=srcOf L' z (E x):=λz=>zG4 ix
                     have:znh P L d t (E s) (E x)=znh P L' d t (E s) (E x):=by
                      unfold znh;simp only[hsrc]
                      cases P.underlying t with
                      |none=>rfl
                      |some td =>
                        cases td with
                        |slice e =>
                          simp only
                          cases P.info? e with
                          |none=>rfl
                          |some i =>
                            cases zeroB P e with
                            |none=>rfl
                            |some zero =>
                              simp only;split
                              . cases srcOf L' i.size (E x)with
                                |none=>rfl
                                |some new =>
                                  simp only
                                  cases hq:E s with
                                  |row b z off n=>rw[hq]at is;simp only;rw[is b (by simp[AV.ids])]
                                  |v y=>cases y with
                                    |slice A l c=>cases A<;>cases l<;>cases c<;>rfl
                                    |_=>rfl
                                  |_=>rfl
                              .rfl
                        |_=>rfl
                     rw[this]
     |copy =>
       simp only;split
       . rename_i s x t tr ha ht;have hs:=hE s (by simp[ho,Op.operands,Call.operands];rw[<-zbX,ha];simp);have hxx:=hE x (by simp[ho,Op.operands,Call.operands];rw[<-zbX,ha];simp);have is:=hx (by rw[ho];rfl) s (by simp[ho,Op.operands,Call.operands];rw[<-zbX,ha];simp);have ix:=hx (by rw[ho];rfl) x (by simp[ho,Op.operands,Call.operands];rw[<-zbX,ha];simp);rw[<-hs,<-hxx];unfold aCopy;have hsrc:∀z,srcOf L z (E x)=srcOf L' z (E x):=λz=>zG4 ix
         simp only[hsrc]
         cases hu:P.underlying t with
         |none=>rfl
         |some td =>
           cases td with
           |slice e =>
             simp only
             cases hz:szB P e with
             |none=>rfl
             |some sz =>
               cases hq:E s with
               |row b z off n=>rw[hq]at is;simp only;rw[is b (by simp[AV.ids])]
               |_=>rfl
           |_=>rfl
       .rfl
     |clear =>
       simp only;split
       . rename_i s t tr ha ht;have hs:=hE s (by simp[ho,Op.operands,Call.operands];rw[<-zbX,ha];simp);have is:=hx (by rw[ho];rfl) s (by simp[ho,Op.operands,Call.operands];rw[<-zbX,ha];simp);rw[<-hs];unfold aClear
         cases hu:P.underlying t with
         |none=>rfl
         |some td =>
           cases td with
           |slice e =>
             simp only
             cases hz:szB P e with
             |none=>rfl
             |some sz =>
               cases hzz:zeroB P e with
               |none=>rfl
               |some zero =>
                 cases hq:E s with
                 |row b z off n=>rw[hq]at is;simp only;rw[is b (by simp[AV.ids])]
                 |_=>rfl
           |_=>rfl
       .rfl
     |len =>
       simp only;split
       . rename_i s t ha ht;have hs:=hE s (by simp[ho,Op.operands,Call.operands];rw[<-zbX,ha];simp);have is:=hx (by rw[ho];rfl) s (by simp[ho,Op.operands,Call.operands];rw[<-zbX,ha];simp);have hme:aMLen L (E s)=aMLen L' (E s):=by unfold aMLen;rw[zGz is]
         rw[<-hs,hpure (by simp[ho])];revert hme;generalize E s=q;intro hme;generalize P.underlying t=u
         cases q<;>first|rfl|(cases u with
          |none=>rfl
          |some td=>cases td<;>first|rfl|exact hme)
       .rfl
     |delete =>
       simp only;split
       . rename_i m k t tr ha ht;have hs:=hE m (by simp[ho,Op.operands,Call.operands];rw[<-zbX,ha];simp);have hk:=hE k (by simp[ho,Op.operands,Call.operands];rw[<-zbX,ha];simp);have is:=hx (by rw[ho];rfl) m (by simp[ho,Op.operands,Call.operands];rw[<-zbX,ha];simp);rw[<-hs,<-hk];unfold aMDel
         cases hq:E m with
         |map b=>rw[hq]at is;simp only;rw[is b (by simp[AV.ids])]
         |_=>rfl
       .rfl
     |_=>simp only;exact hpure (by simp[ho])
 |makeMap t q =>
   cases q with
   |some r=>simp only;exact hpure (by simp[ho])
   |none =>
     simp only
     cases hq:o.dst with
     |none=>rfl
     |some d=>simp only;rw[hd d hq]
 |lookup t m k ok=>simp only;rw[<-hE m (by simp[ho,Op.operands]),<-hE k (by simp[ho,Op.operands])];unfold aMLook;rw[zGz (hx (by rw[ho];rfl) m (by simp[ho,Op.operands]))]
 |mapUpdate t m k x=>simp only;rw[<-hE m (by simp[ho,Op.operands]),<-hE k (by simp[ho,Op.operands]),<-hE x (by simp[ho,Op.operands])];exact zCq (hx (by rw[ho];rfl) m (by simp[ho,Op.operands])) (hx (by rw[ho];rfl) x (by simp[ho,Op.operands]))
 |insert t m k x=>simp only;rw[<-hE m (by simp[ho,Op.operands]),<-hE k (by simp[ho,Op.operands]),<-hE x (by simp[ho,Op.operands])];exact zCq (hx (by rw[ho];rfl) m (by simp[ho,Op.operands])) (hx (by rw[ho];rfl) x (by simp[ho,Op.operands]))
 |convert u t x=>simp only;rw[hE x (by simp[ho,Op.operands]),hpure (by simp[ho])]
 |binOp op t x y u=>simp only;rw[hE x (by simp[ho,Op.operands]),hE y (by simp[ho,Op.operands]),hpure (by simp[ho])]
 |select cs b=>rfl
 |_=>simp only;exact hpure (by simp[ho])
end
section
variable[Dr]
abbrev FS:=(Nat->AV)×(Nat->Option Ent)
def evF(T:Nat->AV):Operand->AV
 |.tmp k=>T k
 |.const x=>.v x
 |.func f=>.fn f []
 |.global _=>.bot
def ev_eq(t:Tab):ev t=evF (get t):=by funext x;cases x<;>rfl
def zsL(ops:aT)(o:Oper)(T:Nat->AV):Option Bool:=
 match o.guard with
 |none=>some true
 |some (j,want)=>match(ops[j]?).bind (·.dst)with
   |some d=>match T d with
     |.v (.bool b)=>some (b==want)
     |.v (.tuple _)=>some false
     |_=>none
   |none=>none
def wanted_eq(ops:aT)(o:Oper)(t:Tab):zuZ ops o t=zsL ops o (get t):=rfl
def aStepF(P:Program)(C:Cfg)(M:aO)(call:zcR)(N:Nat)(ops:aT)(o:Oper)(x:FS):Option Res:=
 if dstOk N o.dst then
  match zsL ops o x.1 with
  |some true=>aop P C M call o (evF x.1) x.2
  |some false=>some { val:=.v undef }
  |none=>none
 else none
def appF(o:Oper)(r:Res)(x:FS):FS:=(applyT o.dst r x.1 x.2,applyL r x.2)
def fs(st:St):FS:=(get st.t,look st.m)
def zC5{P:Program}{C:Cfg}{M:aO}{call:zcR}{N:Nat}{ops:aT}{o:Oper}{st st':St}{r:Res}(h:aStep P C M call N ops o st=some (r,st')):aStepF P C M call N ops o (fs st)=some r/\fs st'=appF o r (fs st):=by
 have key:∀r,fs (applyR o.dst r st)=appF o r (fs st):=λr=>by
  unfold fs appF;congr 1
  .funext k;exact get_apply o.dst r st k
  .funext c;exact look_apply o.dst r st c
 unfold aStep at h;unfold aStepF;split at h
 case isFalse=>cases h
 rename_i hd;rw[if_pos hd];rw[wanted_eq,ev_eq]at h;change _=_/\_;simp only[fs]at *
 grind
section
variable{P:Program}{C:Cfg}{M:aO}{call:zcR}{N:Nat}{ops:aT}{Q:aX}
variable{w0:World}{S0:aD}{κ0:Kap}{K:aD}
def GoodF(w0:World)(S0:aD)(κ0:Kap)(K:aD)(N:Nat)(x:FS)(a:Act)(w:World):Prop:=∃S κ,Good w0 S0 κ0 K N S κ x.1 x.2 a w
def zBo{S:aD}{κ:Kap}{D:aD}{w:World}{o:Oper}{T:Nat->AV}{tm:aV}{b:Bool}(hT:∀k,VRel S κ D w (T k) (tm.getD k undef))(h:zsL ops o T=some b):Region.wanted o (yielded ops tm)=b:=by
 unfold zsL at h;unfold Region.wanted;split at h
 .simp_all
 . rename_i j want hg;simp only[hg];split at h
   case h_2=>cases h
   rename_i d hd;split at h
   . rename_i bb hb;have h1:=hT d;rw[hb]at h1;have h2:=h1.v_inv
     have h3:tm[d]?=some (.bool bb):=by
      rw[zcW]at h2
      cases hq:tm[d]? with
      |none=>rw[hq]at h2;cases h2
      |some y=>simp_all
     injection h with h;simp only[yielded,hd,zad,h3]
     simp_all
   . rename_i vs hb;have h1:=hT d;rw[hb]at h1;have h2:=h1.v_inv;injection h with h
     have h3:yielded ops tm j=none:=by
      simp only[yielded,hd,zad];rw[zcW]at h2
      cases hq:tm[d]? with
      |none=>rfl
      |some y=>simp_all
     grind
   .cases h
def zxp(hcall:CallOK P call)(hN:N<=1000){i:Nat}{o:Oper}(hi:ops[i]?=some o){x:FS}{r:Res}(h:aStepF P C M call N ops o x=some r){a:Act}{w:World}(hg:GoodF w0 S0 κ0 K N x a w)
  {Kc:aj} (hK:∀a' w',GoodF w0 S0 κ0 K N (appF o r x) a' w'->Kc a' w'):wpOp P ops Q i Kc a w:=by
 obtain⟨S,κ,hg⟩:=hg;unfold aStepF at h;split at h
 case isFalse=>cases h
 rename_i hd;unfold wpOp;simp only[hi];split at h
 . rename_i hw;rw[if_pos (zBo hg.slots hw)];refine .inl (aop_sound (D:=λb=>(x.2 b).isSome=true) hcall hg.slt hg.okw (λ_=>Iff.rfl) hg.inj hg.ents ?_ h ?_)
   . intro y hy
     cases y with
     |tmp k=>exact hg.slots k
     |const v=>exact .c (.v _)
     |func f=>exact .c (.fn f [] #[] rfl (by simp))
     |global g=>exact .bot _
   .intro y w' S' κ' he hdis;exact hK _ _ ⟨S',κ',hg.apply hN hd he hdis (aop_shape h)⟩
 .rename_i hw;rw[if_neg (by rw[zBo hg.slots hw];simp)];injection h with h;subst h;refine hK _ _ ⟨S,κ,hg.apply (y:=undef) hN hd (EffAt.still hg.slt (.c (.v _)) rfl rfl rfl rfl) ?_ (Shape.none rfl rfl rfl)⟩;intro b hb;cases hb
 .cases h
def zGO(hcall:CallOK P call)(hN:N<=1000):∀(l:List Oper) (k:Nat) (st st':St) (rs:List Mk),runOps P C M call N ops k l st=some (rs,st')->(∀j o,l[j]?=some o->ops[k+j]?=some o)->∀(a:Act) (w:World),GoodF w0 S0 κ0 K N (fs st) a w->(∀a' w',GoodF w0 S0 κ0 K N (fs st') a' w'->Q .normal a' w')->wpOps P ops Q (List.range' k l.length) a w
 |[],k,st,st',rs,h,_,a,w,hg,hQ=>by simp[runOps]at h;obtain⟨_,rfl⟩:=h;exact hQ a w hg
 |o::l,k,st,st',rs,h,hl,a,w,hg,hQ=>by
   simp only[runOps]at h
   cases hs:aStep P C M call N ops o st with
   |none=>simp[hs]at h
   |some q =>
     obtain⟨r,st1⟩:=q;simp only[hs]at h
     cases ho:runOps P C M call N ops (k+1) l st1 with
     |none=>simp[ho]at h
     |some q=>obtain⟨rs',st2⟩:=q;simp only[zG,ho]at h;obtain⟨_,rfl⟩:=h;obtain⟨e1,e2⟩:=zC5 hs;rw[zaJ,ziI,wpOps_cons];refine zxp hcall hN (hl 0 o rfl) e1 hg (λa' w' hg'=>?_);rw[<-e2]at hg';exact zGO hcall hN l (k+1) st1 st2 rs' ho (λj o' hj=>by have:=hl (j+1) o' (by simpa using hj);grind) a' w' hg' hQ
def GoodF.del{st:St}{a:Act}{w:World}(h:GoodF w0 S0 κ0 K N (fs st) a w)(b:Nat):GoodF w0 S0 κ0 K N (fs (del b st)) a w:=by
 obtain⟨S,κ,h⟩:=h;refine⟨S,κ,?_⟩;have:=h.del b;have e1:(fs (Ab.del b st)).1=λk=>((fs st).1 k).kill b 4:=funext λk=>zox b st.t k
 have e2:(fs (Ab.del b st)).2=killL b (fs st).2:=funext λc=>ziW b st.m c
 grind
def GoodF.preDel{a:Act}{w:World}:∀(l:List Oper) (st:St),GoodF w0 S0 κ0 K N (fs st) a w->GoodF w0 S0 κ0 K N (fs (preDel l st)) a w
 |[],st,h=>h
 |o::l,st,h=>by
   simp only[Ab.preDel];refine GoodF.preDel l _ ?_;split
   . split
     .exact h.del _
     .exact h
   .exact h
def Agree(lk tc:aO)(x y:FS):Prop:=(∀k∈lk,x.1 k=y.1 k)/\∀b∈tc,x.2 b=y.2 b
def zLH{o:Oper}{x y:FS}(h:Agree (Oper.looks ops o) (zpd o (evF x.1) x.2) x y):aStepF P C M call N ops o x=aStepF P C M call N ops o y:=by
 have hw:zsL ops o x.1=zsL ops o y.1:=by
  unfold zsL
  cases hg:o.guard with
  |none=>rfl
  |some p =>
    obtain⟨j,want⟩:=p;simp only
    cases hd:(ops[j]?).bind (·.dst)with
    |none=>rfl
    |some d=>simp only;rw[h.1 d (by simp[Oper.looks,hg,hd])]
 have hE:∀z∈o.op.operands,evF x.1 z=evF y.1 z:=by
  intro z hz
  cases z with
  |tmp k=>exact h.1 k (by
    simp only[Oper.looks,zaX]
    exact .inl (List.mem_filterMap.2 ⟨.tmp k,by simpa using hz,rfl⟩))
  |_=>rfl
 unfold aStepF;rw[hw,aop_congr hE h.2]
def A(m:Mk)(x:FS):FS:=appF m.o m.res x
def stp(ml:List Mk)(x0:FS)(p:Nat->Bool):Nat->FS
 |0=>x0
 |m+1=>match ml[m]? with
   |some k=>if p m then A k (stp ml x0 p m)else stp ml x0 p m
   |none=>stp ml x0 p m
def zqM{a b:aO}(h:disj a b=true):∀x∈a,∀y∈b,x≠y:=by
 intro x hx y hy;have h1:=zbd.1 h x hx
 simp_all
def zo0{c:Nat}:∀(k:Nat) (a:AV),a.inert c k=true->a.kill c k=a
 |0,a,h=>by cases a<;>simp[AV.inert,AV.kill]at h ⊢
 |k+1,a,h=>by
   cases a with
   |loc c' z i o=>simp only[AV.inert,bne_iff_ne,ne_eq]at h;simp[AV.kill,h]
   |row c' z i o=>simp only[AV.inert,bne_iff_ne,ne_eq]at h;simp[AV.kill,h]
   |agg cs =>
     simp only[AV.inert,zbd]at h;simp only[AV.kill,AV.agg.injEq]
     conv=>rhs;rw[<-zhp cs]
     exact zc2 λx hx=>zo0 k x (h x hx)
   |tup cs =>
     simp only[AV.inert,zbd]at h;simp only[AV.kill,AV.tup.injEq]
     conv=>rhs;rw[<-zhp cs]
     exact zc2 λx hx=>zo0 k x (h x hx)
   |fn f cs =>
     simp only[AV.inert,zbd]at h;simp only[AV.kill,AV.fn.injEq,true_and]
     conv=>rhs;rw[<-zhp cs]
     exact zc2 λx hx=>zo0 k x (h x hx)
   |v x=>rfl
   |sl z es=>rfl
   |fp cs=>rfl
   |bot=>rfl
   |map c'=>simp only[AV.inert,bne_iff_ne,ne_eq]at h;simp[AV.kill,h]
   |mp es=>rfl
   |fa z es=>rfl
   |_=>simp[AV.inert]at h
def zCD{c:Nat}{e:Ent}(h:e.inert c=true):killE c e=e:=by
 obtain⟨z,t,es,box⟩:=e;unfold Ent.inert at h;unfold killE
 cases box with
 |false=>rfl
 |true =>
   simp only[if_true,zbd]at h;simp only[if_true,Ent.mk.injEq,true_and,and_true]
   conv=>rhs;rw[<-zhp es]
   refine zc2 λcs hcs=>?_
   conv=>rhs;rw[id,<-zhp cs]
   exact zc2 λx hx=>zo0 4 x (h cs hcs x hx)
def Calm(c:Nat)(lk tc:aO)(x:FS):Prop:=(∀k∈lk,(x.1 k).kill c 4=x.1 k)/\∀q∈tc,killL c x.2 q=x.2 q
def Calm.congr{c:Nat}{lk tc:aO}{x y:FS}(h:Calm c lk tc x)(ha:Agree lk tc y x):Calm c lk tc y:=
 ⟨λk hk=>by rw[ha.1 k hk];exact h.1 k hk,λq hq=>by
  have:=h.2 q hq;unfold killL at this ⊢;rw[ha.2 q hq]
  exact this⟩
structure Ind(ops:aT)(a b:Mk):Prop where
 ba:bar a=false
 bb:bar b=false
 kk:a.res.kill=none\/b.res.kill=none
 d1:∀d,a.o.dst=some d->d ∉ Oper.looks ops b.o
 d2:∀d,b.o.dst=some d->d ∉ Oper.looks ops a.o
 d3:∀d,a.o.dst=some d->b.o.dst≠some d
 s1:∀c∈ids a.res.set,c ∉ b.touch
 s2:∀c∈ids b.res.set,c ∉ a.touch
 s3:∀c∈ids a.res.set,c ∉ ids b.res.set
 v1:∀c,a.res.kill=some c->b.res.val.kill c 4=b.res.val/\∀q e,look b.res.set q=some e->q≠c/\killE c e=e
 v2:∀c,b.res.kill=some c->a.res.val.kill c 4=a.res.val/\∀q e,look a.res.set q=some e->q≠c/\killE c e=e
 g1:∀c,a.res.kill=some c->Calm c (Oper.looks ops b.o) b.touch (fs a.pre)
 g2:∀c,b.res.kill=some c->Calm c (Oper.looks ops a.o) a.touch (fs a.pre)
def zGv:∀{l:ah} {q:Nat} {e:Ent},look l q=some e->(q,e)∈l
 |[],q,e,h=>by simp[look]at h
 |(j,e')::r,q,e,h=>by
   simp only[look]at h;split at h
   .simp_all
   .exact zbG _ (zGv h)
def zuQ{c:Nat}{m:Mk}{pre:St}(h:quiet ops (some c) m pre=true):(m.res.val.kill c 4=m.res.val/\∀q e,look m.res.set q=some e->q≠c/\killE c e=e)/\Calm c (Oper.looks ops m.o) m.touch (fs pre):=by
 unfold quiet at h;simp only[zaU,zbd]at h;obtain⟨⟨⟨h1,h2⟩,h3⟩,h4⟩:=h;refine⟨⟨zo0 4 _ h1,λq e hq=>?_⟩,λk hk=>zo0 4 _ (h4 k hk),λq hq=>?_⟩
 .have:=h2 (q,e) (zGv hq);exact⟨by simpa using this.1,zCD this.2⟩
 . have:=h3 q hq;have hne:q≠c:=by simpa using this.1
   have h5:=this.2;unfold killL;rw[if_neg hne];change(look pre.m q).map (killE c)=look pre.m q
   cases hl:look pre.m q with
   |none=>rfl
   |some e=>rw[hl]at h5;simp only[zcM];rw[zCD h5]
def Ind.of{a b:Mk}(h:indep ops a b=true):Ind ops a b:=by
 unfold indep at h;simp only[zaU,zed]at h;obtain⟨⟨⟨⟨⟨⟨⟨⟨⟨⟨h1,h2⟩,hk⟩,q1⟩,q2⟩,h3⟩,h4⟩,h5⟩,h6⟩,h7⟩,h8⟩:=h;refine⟨h1,h2,?_,λd hd hm=>zqM h3 d (by simp[hd]) d hm rfl,λd hd hm=>zqM h4 d (by simp[hd]) d hm rfl,λd hd hm=>zqM h5 d (by simp[hd]) d (by simp[hm]) rfl,λc hc hm=>zqM h6 c hc c hm rfl,λc hc hm=>zqM h7 c hc c hm rfl,λc hc hm=>zqM h8 c hc c hm rfl,λc hc=>?_,λc hc=>?_,λc hc=>?_,λc hc=>?_⟩
 .simp_all
 .rw[hc]at q1;exact(zuQ q1).1
 .rw[hc]at q2;exact(zuQ q2).1
 .rw[hc]at q1;exact(zuQ q1).2
 .rw[hc]at q2;exact(zuQ q2).2
def bar_false{m:Mk}(h:bar m=false):m.res.frz=[]/\m.res.re=[]:=by
 unfold bar at h
 simp_all
def zsh{m:Mk}(h:bar m=false)(x:FS):A m x=(λk=>if m.o.dst=some k then m.res.val else killO m.res.kill (x.1 k),λc=>match look m.res.set c with|some e=>some e|none=>killLO m.res.kill x.2 c):=by
 obtain⟨h2,h3⟩:=bar_false h;unfold A appF;congr 1
 .funext k;simp only[applyT,h2,h3,frzO,killR]
 . funext c;simp only[applyL,h2,h3,frzLO,killLR]
   try rfl
def ztb{l:ah}{c:Nat}(h:c ∉ ids l):look l c=none:=by
 cases hq:look l c with
 |none=>rfl
 |some e=>exact absurd (zDO.1 (by simp[hq])) h
def A_comm0{a b:Mk}(ha:bar a=false)(hb:bar b=false)(hk:a.res.kill=none)(d3:∀d,a.o.dst=some d->b.o.dst≠some d)(s3:∀c∈ids a.res.set,c ∉ ids b.res.set)
  (v2:∀c,b.res.kill=some c->a.res.val.kill c 4=a.res.val/\∀q e,look a.res.set q=some e->q≠c/\killE c e=e) (x:FS):A a (A b x)=A b (A a x):=by
 rw[zsh ha (A b x),zsh hb x,zsh hb (A a x),zsh ha x];simp only[hk,killO,killLO];congr 1
 .grind
 . funext c;by_cases h1:c∈ids a.res.set
   . have h2:look b.res.set c=none:=ztb (s3 c h1);obtain⟨e,he⟩:=zaT.1 (zDO.2 h1);simp only[he,h2]
     cases hq:b.res.kill with
     |none=>simp only[he]
     |some c'=>obtain⟨q1,q2⟩:=(v2 c' hq).2 c e he;simp only[killL,he,if_neg q1,zcM,q2]
   . simp only[ztb h1]
     cases look b.res.set c with
     |some e=>rfl
     |none =>
       simp only
       cases hq:b.res.kill with
       |none=>simp only[ztb h1]
       |some c'=>simp only[killL,ztb h1]
def A_comm{a b:Mk}(h:Ind ops a b)(x:FS):A a (A b x)=A b (A a x):=by
 rcases h.kk with hk|hk
 .exact A_comm0 h.ba h.bb hk h.d3 h.s3 h.v2 x
 .exact(A_comm0 h.bb h.ba hk (λd hd hm=>h.d3 d hm hd) (λc hc hm=>h.s3 c hm hc) h.v1 x).symm
def A_agree{m:Mk}{lk tc:aO}(hb:bar m=false)(h1:∀d,m.o.dst=some d->d ∉ lk)(h2:∀c∈ids m.res.set,c ∉ tc)(x:FS)(hk:∀c,m.res.kill=some c->Calm c lk tc x):Agree lk tc (A m x) x:=by
 rw[zsh hb];refine⟨λk hkm=>?_,λc hc=>?_⟩
 . have:¬m.o.dst=some k:=λe=>h1 k e hkm
   simp only[this,if_false]
   cases hq:m.res.kill with
   |none=>rfl
   |some c=>exact(hk c hq).1 k hkm
 . have:look m.res.set c=none:=ztb (λhm=>h2 c hm hc);simp only[this]
   cases hq:m.res.kill with
   |none=>rfl
   |some c'=>exact(hk c' hq).2 c hc
def A_agree2{m:Mk}{lk tc:aO}(hb:bar m=false){x y:FS}(h:Agree lk tc x y):Agree lk tc (A m x) (A m y):=by
 rw[zsh hb,zsh hb];refine⟨λk hk=>?_,λc hc=>?_⟩
 .simp only;rw[h.1 k hk]
 . simp only
   cases look m.res.set c with
   |some e=>rfl
   |none =>
     simp only
     cases m.res.kill with
     |none=>exact h.2 c hc
     |some c'=>simp only[killLO,killL];rw[h.2 c hc]
def Agree.trans{lk tc:aO}{x y z:FS}(h:Agree lk tc x y)(h':Agree lk tc y z):Agree lk tc x z:=⟨λk hk=>(h.1 k hk).trans (h'.1 k hk),λc hc=>(h.2 c hc).trans (h'.2 c hc)⟩
def Agree.symm{lk tc:aO}{x y:FS}(h:Agree lk tc x y):Agree lk tc y x:=⟨λk hk=>(h.1 k hk).symm,λc hc=>(h.2 c hc).symm⟩
def Agree.refl{lk tc:aO}(x:FS):Agree lk tc x x:=⟨λ_ _=>rfl,λ_ _=>rfl⟩
def zE7:∀(l:List Oper) (i:Nat) (st st':St) (ml:List Mk),runOps P C M call N ops i l st=some (ml,st')->ml.length=l.length/\(∀m k,ml[m]?=some k->k.i=i+m/\l[m]?=some k.o/\fs k.pre=stp ml (fs st) (λ_=>true) m/\aStepF P C M call N ops k.o (stp ml (fs st) (λ_=>true) m)=some k.res/\k.touch=zpd k.o (evF (stp ml (fs st) (λ_=>true) m).1) (stp ml (fs st) (λ_=>true) m).2)/\fs st'=stp ml (fs st) (λ_=>true) l.length
 |[],i,st,st',ml,h=>by simp[runOps]at h;obtain⟨rfl,rfl⟩:=h;exact⟨rfl,by simp,rfl⟩
 |o::l,i,st,st',ml,h=>by
   simp only[runOps]at h
   cases hs:aStep P C M call N ops o st with
   |none=>simp[hs]at h
   |some q =>
     obtain⟨r,st1⟩:=q;simp only[hs]at h
     cases hm:runOps P C M call N ops (i+1) l st1 with
     |none=>simp[hm]at h
     |some q =>
       obtain⟨ml1,st2⟩:=q;simp only[zG,hm]at h;obtain⟨rfl,rfl⟩:=h;obtain⟨e1,e2⟩:=zC5 hs;obtain⟨i1,i2,i3⟩:=zE7 l (i+1) st1 st2 ml1 hm
       have hstp:∀m,stp ({ i:=i,o:=o,res:=r,touch:=zpd o (ev st.t) (look st.m),pre:=st }::ml1) (fs st) (λ_=>true) (m+1)=stp ml1 (fs st1) (λ_=>true) m:=by
        intro m
        induction m with
        |zero=>simp[stp,A,e2]
        |succ m ih=>rw[stp];simp only[zdD];rw[ih];rfl
       refine⟨by simp[i1],λm k hk=>?_,?_⟩
       . cases m with
         |zero=>simp at hk;subst hk;exact⟨rfl,rfl,rfl,e1,by rw[ev_eq];rfl⟩
         |succ m=>grind
       simp_all
def zCA:∀(ml:List Mk),drawOk ops ml=true->∀(i j:Nat) (a b:Mk),i<j->ml[i]?=some a->ml[j]?=some b->(preds ops b.i b.i).contains a.i=true\/indep ops a b=true
 |[],_,i,j,a,b,_,h,_=>by simp at h
 |m::ml,h,i,j,a,b,hij,ha,hb=>by
   simp only[drawOk,zaU]at h
   cases j with
   |zero=>omega
   |succ j =>
     cases i with
     |zero=>grind
     |succ i=>exact zCA ml h.2 i j a b (by omega) (by simpa using ha) (by simpa using hb)
def zAP:∀(l:List Oper) (i:Nat),zqN i l=true->∀j o,l[j]?=some o->∀e∈o.after,Region.binds .any e=true->e.on<i+j
 |[],_,_,j,o,h,_,_,_=>by simp at h
 |q::l,i,h,j,o,hj,e,he,hb=>by
   simp only[zqN,zaU]at h
   cases j with
   |zero=>grind
   |succ j=>have:=zAP l (i+1) h.2 j o (by simpa using hj) e he hb;omega
def DC(ops:aT)(p:Nat->Bool):Prop:=∀j o,ops[j]?=some o->p j=true->∀e∈o.after,Region.binds .any e=true->p e.on=true
def preds_in{p:Nat->Bool}(hdc:DC ops p):∀(k i:Nat),(∀o,ops[i]?=some o->∀e∈o.after,Region.binds .any e=true->p e.on=true)->∀j∈preds ops k i,p j=true:=by
 intro k
 induction k with
 |zero=>intro i _ j hj;simp[preds]at hj
 |succ k ih =>
   intro i h j hj;simp only[preds]at hj
   cases ho:ops[i]? with
   |none=>simp[ho]at hj
   |some o =>
     simp only[ho]at hj;obtain⟨e,he,hj⟩:=zbM.1 hj;split at hj
     . rename_i hb;have hon:=h o ho e (by simpa using he) hb;rcases zat.1 hj with rfl|hj
       .exact hon
       .exact ih e.on (λo' ho' e' he' hb'=>hdc e.on o' ho' hon e' he' hb') j hj
     .cases hj
def stp_all{ml:List Mk}{x0:FS}{p:Nat->Bool}:∀(m:Nat),(∀j,j<m->p j=true)->stp ml x0 p m=stp ml x0 (λ_=>true) m
 |0,_=>rfl
 |m+1,h=>by simp only[stp];rw[stp_all m (λj hj=>h j (by omega)),h m (by omega)];cases ml[m]?<;>simp
def stp_agree{ml:List Mk}{x0:FS}{p:Nat->Bool}{i:Nat}{ki:Mk}(hi:ml[i]?=some ki)(hpi:p i=false)
  (hfs:∀m k,ml[m]?=some k->fs k.pre=stp ml x0 (λ_=>true) m)
  (hind:∀(i j:Nat) (a b:Mk),i<j->ml[i]?=some a->ml[j]?=some b->(preds ops j j).contains i=true\/Ind ops a b)
  (hdc:∀j,p j=true->∀q∈preds ops j j,p q=true) (hpre:∀q∈preds ops i i,p q=true) (n:Nat) (hin:i<=n):Agree (Oper.looks ops ki.o) ki.touch (stp ml x0 p n) (stp ml x0 (λ_=>true) i):=by
 have before:∀m,m<=i->Agree (Oper.looks ops ki.o) ki.touch (stp ml x0 p m) (stp ml x0 (λ_=>true) m):=by
  intro m
  induction m with
  |zero=>intro _;exact Agree.refl _
  |succ m ih =>
    intro hm;have ih:=ih (by omega);simp only[stp]
    cases hq:ml[m]? with
    |none=>exact ih
    |some k =>
      simp only[if_true]
      cases hp:p m with
      |true =>
        simp only[if_true]
        cases hb:bar k with
        |false=>exact A_agree2 hb ih
        |true =>
          have:stp ml x0 p m=stp ml x0 (λ_=>true) m:=stp_all m (λj hj=>by
           cases hqj:ml[j]? with
           |none=>grind
           |some kj =>
             rcases hind j m kj k hj hqj hq with h|h
             .grind
             .rw[h.bb]at hb;cases hb)
          rw[this];exact Agree.refl _
      |false =>
        simp only[zK];rcases hind m i k ki (by omega) hq hi with h|h
        .simp_all
        .exact ih.trans (A_agree h.ba h.d1 h.s1 _ (λc hc=>by rw[<-hfs m k hq];exact h.g1 c hc)).symm
 have after:∀m,i<=m->Agree (Oper.looks ops ki.o) ki.touch (stp ml x0 p m) (stp ml x0 p i):=by
  intro m
  induction m with
  |zero =>
    intro hm;have:i=0:=by omega
    subst this;exact Agree.refl _
  |succ m ih =>
    intro hm;by_cases he:i=m+1
    .subst he;exact Agree.refl _
    . have ih:=ih (by omega);simp only[stp]
      cases hq:ml[m]? with
      |none=>exact ih
      |some k =>
        simp only
        cases hp:p m with
        |false=>exact ih
        |true =>
          simp only[if_true]
          have hlt:i<m:=by
           rcases zcs i m with h|h
           .exact h
           .grind
          rcases hind i m ki k hlt hi hq with h|h
          .grind
          .exact(A_agree h.bb h.d2 h.s2 _ (λc hc=>(h.g2 c hc).congr (by rw[hfs i ki hi];exact ih.trans (before i (zav _))))).trans ih
 exact(after n hin).trans (before i (zav _))
def stp_put{ml:List Mk}{x0:FS}{p p':Nat->Bool}{i:Nat}{ki:Mk}(hi:ml[i]?=some ki)(hpi:p i=false)(hp':∀j,p' j=if j=i then true else p j)
  (hind:∀(i j:Nat) (a b:Mk),i<j->ml[i]?=some a->ml[j]?=some b->(preds ops j j).contains i=true\/Ind ops a b)
  (hdc:∀j,p j=true->∀q∈preds ops j j,p q=true) (n:Nat) (hin:i<n):A ki (stp ml x0 p n)=stp ml x0 p' n:=by
 have before:∀m,m<=i->stp ml x0 p m=stp ml x0 p' m:=by
  intro m
  induction m with
  |zero=>intro _;rfl
  |succ m ih =>
    intro hm;simp only[stp]
    grind
 have after:∀m,i<m->A ki (stp ml x0 p m)=stp ml x0 p' m:=by
  intro m
  induction m with
  |zero=>intro h;omega
  |succ m ih =>
    intro hm;by_cases he:i=m
    . subst he;simp only[zK,stp,hi,hpi,hp' i,if_true]
      simp_all
    . have ih:=ih (by omega);simp only[stp]
      cases hq:ml[m]? with
      |none=>exact ih
      |some k =>
        simp only;have hpm:p' m=p m:=by grind
        rw[hpm]
        cases hp:p m with
        |false=>simpa using ih
        |true =>
          simp only[if_true];rcases hind i m ki k (by omega) hi hq with h|h
          .grind
          .rw[A_comm h,ih]
 exact after n hin
end
end
section
variable[Dr]
section
variable{P:Program}{C:Cfg}{M:aO}{call:zcR}{N:Nat}{ops:aT}{Q:aX}
variable{w0:World}{S0:aD}{κ0:Kap}{K:aD}
def pOf(listed:Array Bool):Nat->Bool:=λj=>listed.getD j false
def pOf_put(listed:Array Bool)(i:Nat)(hi:i<listed.size):∀j,pOf (listed.setIfInBounds i true) j=if j=i then true else pOf listed j:=by
 intro j;unfold pOf;by_cases hj:j=i
 .subst hj;simp[hi]
 . have:i≠j:=λe=>hj e.symm
   simp_all
def pOf_none(n j:Nat):pOf (Array.replicate n false) j=false:=by unfold pOf;rw[zcW,Array.getElem?_replicate];split<;>rfl
def left_(n:Nat)(p:Nat->Bool):Nat:=((List.range n).filter λj=>!p j).length
def left_put{n i:Nat}{p p':Nat->Bool}(hi:i<n)(hpi:p i=false)(hp':∀j,p' j=if j=i then true else p j):left_ n p'<left_ n p:=by
 unfold left_
 have h1:(List.range n).filter (λj=>!p' j)=((List.range n).filter (λj=>!p j)).filter (λj=>j !=i):=by
  rw[List.filter_filter];apply List.filter_congr;intro j _;rw[hp' j];by_cases hj:j=i
  .simp[hj]
  .simp[hj]
 rw[h1];exact List.length_filter_lt_length_iff_exists.2 ⟨i,List.mem_filter.2 ⟨zgq.2 hi,by simp[hpi]⟩,by simp⟩
def draw_sound(hcall:CallOK P call)(hN:N<=1000){ml:List Mk}{x0:FS}(hlen:ml.length=ops.size)
  (hml:∀m k,ml[m]?=some k->ops[m]?=some k.o/\fs k.pre=stp ml x0 (λ_=>true) m/\aStepF P C M call N ops k.o (stp ml x0 (λ_=>true) m)=some k.res/\k.touch=zpd k.o (evF (stp ml x0 (λ_=>true) m).1) (stp ml x0 (λ_=>true) m).2)
  (hind:∀(i j:Nat) (a b:Mk),i<j->ml[i]?=some a->ml[j]?=some b->(preds ops j j).contains i=true\/Ind ops a b)
  (hedge:∀j o,ops[j]?=some o->∀e∈o.after,Region.binds .any e=true->e.on<j)
  (hQ:∀a w,GoodF w0 S0 κ0 K N (stp ml x0 (λ_=>true) ops.size) a w->Q .normal a w):∀(fuel:Nat) (listed:Array Bool) (a:Act) (w:World),listed.size=ops.size->left_ ops.size (pOf listed)<=fuel->DC ops (pOf listed)->GoodF w0 S0 κ0 K N (stp ml x0 (pOf listed) ops.size) a w->wpAny P .any ops Q fuel listed a w:=by
 have done:∀(listed:Array Bool) (a:Act) (w:World),listed.size=ops.size->GoodF w0 S0 κ0 K N (stp ml x0 (pOf listed) ops.size) a w->Region.ready .any ops listed=[]->Q .normal a w:=by
  intro listed a w hs hg hr
  have hall:∀j,j<ops.size->pOf listed j=true:=by
   intro j
   induction j using Nat.strongRecOn with
   |_ j ih =>
     intro hj
     cases hp:pOf listed j with
     |true=>rfl
     |false =>
       exfalso
       have hmem:j∈Region.ready .any ops listed:=by
        refine mem_ready.2 ⟨?_,ops[j],zaN hj,λe he hb=>?_⟩
        . unfold pOf at hp
          simp_all
        .have hlt:=hedge j _ (zaN hj) e he hb;exact ih e.on hlt (by omega)
       simp_all
  rw[stp_all ops.size hall]at hg;exact hQ a w hg
 have step:∀(listed:Array Bool) (a:Act) (w:World) (i:Nat),listed.size=ops.size->DC ops (pOf listed)->GoodF w0 S0 κ0 K N (stp ml x0 (pOf listed) ops.size) a w->i∈Region.ready .any ops listed->i<ops.size/\pOf listed i=false/\DC ops (pOf (listed.setIfInBounds i true))/\∀Kc:Act->World->Prop,(∀a' w',GoodF w0 S0 κ0 K N (stp ml x0 (pOf (listed.setIfInBounds i true)) ops.size) a' w'->Kc a' w')->wpOp P ops Q i Kc a w:=by
  intro listed a w i hs hdc hg hi;obtain⟨hu,o,ho,hed⟩:=mem_ready.1 hi;have hin:i<ops.size:=(zdd.1 ho).1
  have hpi:pOf listed i=false:=by
   unfold pOf;have hil:i<listed.size:=by omega
   simp[hil]at hu ⊢;exact hu
  have hput:=pOf_put listed i (by omega)
  have hpre:∀q∈preds ops i i,pOf listed q=true:=preds_in hdc i i (λo' ho' e he hb=>by
   rw[ho]at ho';injection ho' with ho';subst ho'
   exact hed e he hb)
  have hdcp:∀j,pOf listed j=true->∀q∈preds ops j j,pOf listed q=true:=λj hj=>preds_in hdc j j (λo' ho' e he hb=>hdc j o' ho' hj e he hb)
  refine⟨hin,hpi,?_,?_⟩
  . intro j o' ho' hj e he hb;rw[hput]at hj ⊢;by_cases hji:j=i
    . subst hji;rw[ho]at ho';injection ho' with ho';subst ho';split
      .rfl
      .exact hed e he hb
    . rw[if_neg hji]at hj;split
      .rfl
      .exact hdc j o' ho' hj e he hb
  . intro Kc hK;have hlt:i<ml.length:=by omega
    have hmi:ml[i]?=some ml[i]:=zaa hlt;obtain⟨h1,_,h2,h3⟩:=hml i ml[i] hmi;have hag:=stp_agree (x0:=x0) hmi hpi (λm k hk=>(hml m k hk).2.1) hind hdcp hpre ops.size (by omega);rw[ho]at h1;injection h1 with h1
    have hst:aStepF P C M call N ops ml[i].o (stp ml x0 (pOf listed) ops.size)=some ml[i].res:=by rw[<-h2];refine(zLH ?_).symm;rw[<-h3];exact hag.symm
    refine zxp hcall hN (by rw[ho,h1]) hst hg (λa' w' hg'=>hK a' w' ?_);rw[<-stp_put hmi hpi hput hind hdcp ops.size hin];exact hg'
 intro fuel
 induction fuel with
 |zero =>
   intro listed a w hs hl hdc hg
   have hnil:Region.ready .any ops listed=[]:=by
    cases hr:Region.ready .any ops listed with
    |nil=>rfl
    |cons i r=>exfalso;obtain⟨hin,hpi,_⟩:=step listed a w i hs hdc hg (by simp_all);have:=left_put hin hpi (pOf_put listed i (by omega));omega
   exact⟨hnil,done listed a w hs hg hnil⟩
 |succ fuel ih=>intro listed a w hs hl hdc hg;refine⟨done listed a w hs hg,λi hi=>?_⟩;obtain⟨hin,hpi,hdc',hwp⟩:=step listed a w i hs hdc hg hi;refine hwp _ (λa' w' hg'=>ih _ a' w' (by simpa using hs) ?_ hdc' hg');have:=left_put hin hpi (pOf_put listed i (by omega));omega
def GoodF.drew{x:FS}{a:Act}{w:World}(h:GoodF w0 S0 κ0 K N x a w)(n:Nat)(hn:w.drawn<=n):GoodF w0 S0 κ0 K N x a { w with drawn:=n }:=by
 obtain⟨S,κ,h⟩:=h
 have hE:∀{D:aD} {kb:ag} {ent:Ent},EntAt S κ D w kb ent->EntAt S κ D { w with drawn:=n } kb ent:=λhE=>hE.mono (λ_ h=>h) (λ_ _=>rfl) (λ_ h=>h) (λ_ _=>rfl) (λg c hk=>⟨rfl,by
  rw[hk]at hE
  exact hE.notS⟩)
 exact⟨S,κ,{ h with
  output:=h.output.trans (.of rfl hn)
  ents:=λb ent hb=>hE (h.ents b ent hb)
  slots:=λk=>VRel.mono (w:=w) (w':={ w with drawn:=n }) (λ_ h=>h) (λ_ _=>rfl) (λ_ h=>h) (λ_ _=>rfl) (h.slots k) }⟩
def zKr(hcall:CallOK P call)(hN:N<=1000){id:Nat}{draw:Bool}{st st':St}(h:zl3 P C M call N ops draw st=some st'){a:Act}{w:World}(hg:GoodF w0 S0 κ0 K N (fs st) a w)
  (hQ:∀a w,GoodF w0 S0 κ0 K N (fs st') a w->Q .normal a w):(Code.region id ops draw).wp P Q a w:=by
 unfold zl3 at h;have hg1:=hg.preDel ops.toList st
 cases ho:runOps P C M call N ops 0 ops.toList (preDel ops.toList st)with
 |none=>simp_all
 |some q =>
   obtain⟨ml,st1⟩:=q;simp only[ho]at h;split at h
   case isFalse=>cases h
   rename_i hcond;injection h with h;subst h
   cases draw with
   |true =>
     have hok:((drawOk ops ml=true/\zqN 0 ops.toList=true)/\P.follows .mixedOrders=true):=by simpa using hcond
     obtain⟨⟨hok1,hok2⟩,hok3⟩:=hok;obtain⟨m1,m2,hfin⟩:=zE7 ops.toList 0 (preDel ops.toList st) st1 ml ho;have hki:∀(m:Nat) (k:Mk),ml[m]?=some k->k.i=m:=λm k hk=>by grind
     refine wp_region_any hok3 (draw_sound (C:=C) (M:=M) (w0:=w0) (S0:=S0) (κ0:=κ0) (K:=K) hcall hN (ml:=ml) (x0:=fs (preDel ops.toList st)) (by simpa using m1) ?_ ?_ ?_ ?_ ops.size _ a _ (by simp) ?_ ?_ ?_)
     .grind
     . intro i j x y hij hx hy;rcases zCA ml hok1 i j x y hij hx hy with h|h
       .grind
       .exact .inr (Ind.of h)
     .intro j o hj e he hb;have:=zAP ops.toList 0 hok2 j o (by simpa using hj) e he hb;omega
     .simp_all
     . unfold left_
       grind
     .intro j o hj hp;rw[pOf_none]at hp;cases hp
     . have h0:∀n,stp ml (fs (preDel ops.toList st)) (pOf (Array.replicate ops.size false)) n=fs (preDel ops.toList st):=by
        intro n
        induction n with
        |zero=>rfl
        |succ n ih=>simp only[stp];rw[pOf_none,ih];cases ml[n]?<;>simp
       rw[h0];exact hg1.drew _ (Nat.le_succ _)
   |false=>refine wp_region ?_;have:=zGO hcall hN ops.toList 0 (preDel ops.toList st) st1 ml ho (λj o hj=>by simpa using hj) a w hg1 hQ;rw[<-List.range_eq_range']at this;simpa using this
end
end
section
variable[Dr]
section
variable{P:Program}{N:Nat}{w0:World}{S0:aD}{κ0:Kap}{K:aD}{S:aD}{κ:Kap}{T:Nat->AV}{L:aK}{a:Act}{w:World}
def Good.addNil(h:Good w0 S0 κ0 K N S κ T L a w){s:Nat}(hs:s<1000)(hL:L s=none)(z:Nat)(e:TypeId)(hz:0<z):Good w0 S0 κ0 K N S (λb=>if b=s then none else κ b) T (λb=>if b=s then some { z:=z,e:=e,es:=[],box:=false }else L b) a w:=by
 have hne:∀b,(L b).isSome=true->b≠s:=λb hb e=>by simp_all
 have hD:∀b,(L b).isSome=true->(if b=s then some ({ z:=z,e:=e,es:=[],box:=false }:Ent)else L b).isSome=true:=λb hb=>by simp_all
 have hκ:∀b,(L b).isSome=true->(λb=>if b=s then none else κ b) b=κ b:=λb hb=>if_neg (hne b hb)
 have hcase:∀b,(if b=s then some ({ z:=z,e:=e,es:=[],box:=false }:Ent)else L b).isSome=true->b=s\/(b≠s/\(L b).isSome=true):=λb hb=>by grind
 exact{ h with
  par:=λb hb=>by
   have:b≠s:=by omega
   simp only[if_neg this];exact h.par b hb
  parK:=λb hb hl=>by
   rcases hcase b hl with e|⟨_,hl⟩
   .omega
   .exact h.parK b hb hl
  own:=λb g c hb hl hk=>by
   rcases hcase b hl with e|⟨hbs,hl⟩
   .subst e;simp at hk
   .simp only[if_neg hbs]at hk;exact h.own b g c hb hl hk
  inj:=λb b' g c c' hl hl' hk hk'=>by
   rcases hcase b hl with e|⟨hbs,hl⟩
   .subst e;simp at hk
   . rcases hcase b' hl' with e|⟨hbs',hl'⟩
     .subst e;simp at hk'
     .simp only[if_neg hbs]at hk;simp only[if_neg hbs']at hk';exact h.inj b b' g c c' hl hl' hk hk'
  ents:=λb ent hb=>by
   by_cases hbs:b=s
   .subst hbs;simp at hb;subst hb;refine EntAt.of (.inr hz) ⟨by simp,?_⟩;simp
   . rw[if_neg hbs]at hb;have hl:(L b).isSome=true:=by simp[hb]
     have hE:=h.ents b ent hb;simp only[if_neg hbs];refine hE.mono (λ_ h=>h) (λ_ _=>rfl) hD hκ (λg c hk=>⟨rfl,?_⟩);rw[hk]at hE;exact hE.notS
  slots:=λk=>(h.slots k).mono (λ_ h=>h) (λ_ _=>rfl) hD hκ }
def Good.recell(h:Good w0 S0 κ0 K N S κ T L a w){B j:Nat}{ent:Ent}{cs:aN}{a0 a1:AV}(hB:L B=some ent)(hbx:ent.box=true)(hes:ent.es=[cs])(hj:cs[j]?=some a0)
  (hv:∀x,VRel S κ (λb=>(L b).isSome=true) w a0 x->VRel S κ (λb=>(L b).isSome=true) w a1 x):Good w0 S0 κ0 K N S κ T (λb=>if b=B then some { ent with es:=[cs.set j a1] }else L b) a w:=by
 have hiff:(λb=>(if b=B then some ({ ent with es:=[cs.set j a1] }:Ent)else L b).isSome=true)=(λb=>(L b).isSome=true):=by
  funext b;by_cases hb:b=B
  .subst hb;simp[hB]
  .rw[if_neg hb]
 have hi:∀b,(if b=B then some ({ ent with es:=[cs.set j a1] }:Ent)else L b).isSome=true->(L b).isSome=true:=λb hb=>by grind
 exact{ h with
  parK:=λb hb hl=>h.parK b hb (hi b hl)
  own:=λb g c hb hl hk=>h.own b g c hb (hi b hl) hk
  inj:=λb b' g c c' hl hl' hk hk'=>h.inj b b' g c c' (hi b hl) (hi b' hl') hk hk'
  ents:=λb en hb=>by
   rw[hiff];by_cases hbB:b=B
   . subst hbB;simp at hb;subst hb;obtain⟨h1,h2⟩:=(h.ents b ent hB).1 (.inl hbx);refine EntAt.of (.inl hbx) ⟨?_,?_⟩
     .simp_all
     . cases hk:κ b with
       |none=>simp_all
       |some gc =>
         obtain⟨g,c⟩:=gc;rw[hk]at h2;obtain⟨cells,q1,q2,q3,q4,q5,q6⟩:=h2;refine⟨cells,q1,q2,by simpa[hes]using q3,q4,q5,λi k cs' av hi' hk'=>?_⟩
         cases i with
         |succ i=>simp at hi'
         |zero =>
           simp at hi';subst hi';by_cases hkj:k=j
           . subst hkj;obtain⟨u,u1,u2,u3,u4⟩:=q6 0 k cs a0 (by simp[hes]) hj
             grind
           . rw[List.getElem?_set_ne (λe=>hkj e.symm)]at hk';obtain⟨u,u1,u2,u3,u4⟩:=q6 0 k cs av (by simp[hes]) hk'
             simp_all
   .rw[if_neg hbB]at hb;exact h.ents b en hb
  slots:=λk=>by rw[hiff];exact h.slots k }
def zGQ{κ':Kap}{D D':aD}{b s:Nat}(hD:∀c,D c->D' (if c=b then s else c))(hκ:∀c,D c->κ' (if c=b then s else c)=κ c):∀(k:Nat) {a:AV} {x:Value},VRel S κ D w a x->VRel S κ' D' w (a.ren b s k) x:=by
 intro k
 induction k with
 |zero=>intro a x _;exact .bot x
 |succ k ih =>
   intro a x h
   have lists:∀(cs:aN) (vs:aV),vs.size=cs.length->(∀(j:Nat) (c:AV) (x:Value),cs[j]?=some c->vs[j]?=some x->VRel S κ D w c x)->vs.size=(cs.map (AV.ren b s k)).length/\∀(j:Nat) (c:AV) (x:Value),(cs.map (AV.ren b s k))[j]?=some c->vs[j]?=some x->VRel S κ' D' w c x:=by
    intro cs vs hl hr;refine⟨by simpa using hl,λj c x hj hx=>?_⟩;rw[zbv]at hj
    cases hc:cs[j]? with
    |none=>simp[hc]at hj
    |some c'=>grind
   cases a with
   |bot=>exact .bot x
   |v y=>rw[h.v_inv];exact .c (.v _)
   |sl z es=>exact .c h.sl_inv
   |fp cs=>exact .c h.fp_inv
   |agg cs=>obtain⟨vs,rfl,hl,h1,hr⟩:=h.agg_inv;obtain⟨q1,q2⟩:=lists cs vs hl hr;exact .agg _ vs q1 h1 q2
   |tup cs=>obtain⟨vs,rfl,hl,hr⟩:=h.tup_inv;obtain⟨q1,q2⟩:=lists cs vs hl hr;exact .tup _ vs q1 q2
   |fn f cs=>obtain⟨vs,rfl,hl,hr⟩:=h.fn_inv;obtain⟨q1,q2⟩:=lists cs vs hl hr;exact .fn f _ vs q1 q2
   |loc c z i o=>obtain⟨g,cp,hd,hk,rfl⟩:=h.loc_inv;exact .loc _ z i o g cp (hD c hd) ((hκ c hd).trans hk)
   |row c z o n =>
     cases h with
     |c h=>cases h
     |row0 _ _ hd hk=>exact .row0 _ z (hD c hd) ((hκ c hd).trans hk)
     |row _ _ _ _ g cp off' cap hd hk hn ho hc=>exact .row _ z o n g cp off' cap (hD c hd) ((hκ c hd).trans hk) hn ho hc
   |map c=>obtain⟨g,cp,hd,hk,rfl⟩:=h.map_inv;exact .map _ g cp (hD c hd) ((hκ c hd).trans hk)
   |mp es=>exact .c h.mp_inv
   |fa z es=>exact .c h.fa_inv
   |new=>exact .bot x
   |newp=>exact .bot x
   |newm=>exact .bot x
def zDL(b s:Nat):∀(t:Tab) (k:Nat),get (renT b s t) k=(get t k).ren b s 4
 |[],k=>rfl
 |(j,a)::r,k=>by
   simp only[renT,get];split
   .rfl
   .exact zDL b s r k
def renL(b s:Nat)(L:aK):Nat->Option Ent:=λc=>if c=s then(L b).map (renE b s)else if c=b then none else(L c).map (renE b s)
def zAY{b s:Nat}(hbs:b≠s):∀(m:Mem) (c:Nat),look m s=none->look (renM b s m) c=renL b s (look m) c
 |[],c,_=>by simp[renM,look,renL]
 |(j,e)::r,c,h=>by
   simp only[look]at h;split at h
   .cases h
   . rename_i hsj;have ih:=zAY hbs r c h;simp only[renM,look];by_cases hjb:j=b
     . subst hjb;rw[if_pos rfl];by_cases hcs:c=s
       .subst hcs;simp[renL]
       . rw[if_neg hcs,ih];unfold renL
         simp_all
     . rw[if_neg hjb];by_cases hcj:c=j
       . subst hcj;rw[if_pos rfl];have hcs:c≠s:=λe=>hsj e.symm
         unfold renL
         simp_all
       . rw[if_neg hcj,ih];unfold renL
         grind
def Good.ren(h:Good w0 S0 κ0 K N S κ T L a w){b s:Nat}(hb:b<1000)(hs:s<1000)(hbs:b≠s)(hL:L s=none):Good w0 S0 κ0 K N S (λc=>if c=s then κ b else κ c) (λk=>(T k).ren b s 4) (renL b s L) a w:=by
 have hne:∀c,(L c).isSome=true->c≠s:=λc hc e=>by subst e;rw[hL]at hc;cases hc
 have hD:∀c,(L c).isSome=true->(renL b s L (if c=b then s else c)).isSome=true:=λc hc=>by
  unfold renL;by_cases hcb:c=b
  .subst hcb;simp[hc]
  .simp[hcb,hne c hc,hc]
 have hκ:∀c,(L c).isSome=true->(λc=>if c=s then κ b else κ c) (if c=b then s else c)=κ c:=λc hc=>by
  by_cases hcb:c=b
  .subst hcb;simp
  .simp[hcb,hne c hc]
 have hcase:∀c,(renL b s L c).isSome=true->(c=s/\(L b).isSome=true)\/(c≠s/\c≠b/\(L c).isSome=true):=λc hc=>by
  unfold renL at hc;by_cases hcs:c=s
  .rw[if_pos hcs]at hc;exact .inl ⟨hcs,by simpa using hc⟩
  . rw[if_neg hcs]at hc;by_cases hcb:c=b
    .rw[if_pos hcb]at hc;cases hc
    .rw[if_neg hcb]at hc;exact .inr ⟨hcs,hcb,by simpa using hc⟩
 have hE:∀c ent,L c=some ent->EntAt S (λc=>if c=s then κ b else κ c) (λc=>(renL b s L c).isSome=true) w (κ c) (renE b s ent):=λc ent hc=>by
  have hE:=h.ents c ent hc;unfold renE
  cases hbx:ent.box with
  |false=>simp only[zK];exact hE.handed (λ_ h=>h) (λg cp hk=>by rw[hk]at hE;exact hE.notS) (λhb'=>by rw[hbx]at hb';cases hb')
  |true =>
    simp only[if_true];obtain⟨h1,h2⟩:=hE.1 (.inl hbx);refine EntAt.of (.inl rfl) ⟨?_,?_⟩
    .intro cs hcs;simp only[zbf]at hcs;obtain⟨cs',hm,rfl⟩:=hcs;simpa using h1 cs' hm
    . cases hk:κ c with
      |none=>rw[hk]at h2;have:=h2.2;rw[hbx]at this;cases this
      |some gc =>
        obtain⟨g,cp⟩:=gc;rw[hk]at h2;obtain⟨cells,q1,q2,q3,q4,q5,q6⟩:=h2;refine⟨cells,q1,q2,by simpa using q3,q4,q5,λi j cs av hi hj=>?_⟩;simp only[zbv]at hi
        cases hi0:ent.es[i]? with
        |none=>simp[hi0]at hi
        |some cs0 =>
          simp only[hi0,zcM,zaf]at hi;subst hi;simp only[zbv]at hj
          cases hj0:cs0[j]? with
          |none=>simp[hj0]at hj
          |some a0=>simp only[hj0,zcM,zaf]at hj;subst hj;obtain⟨u,u1,u2,u3,_⟩:=q6 i j cs0 a0 hi0 hj0;exact⟨u,u1,u2,λ_=>zGQ hD hκ 4 (u3 hbx),λhb'=>by simp at hb'⟩
 exact{ h with
  par:=λc hc=>by
   have:c≠s:=by omega
   simp only[if_neg this];exact h.par c hc
  parK:=λc hc hl=>by
   rcases hcase c hl with⟨e,_⟩|⟨_,_,hl⟩
   .omega
   .exact h.parK c hc hl
  own:=λc g cp hc hl hk=>by
   rcases hcase c hl with⟨e,hl⟩|⟨hcs,_,hl⟩
   .simp only[if_pos e]at hk;exact h.own b g cp hb hl hk
   .simp only[if_neg hcs]at hk;exact h.own c g cp hc hl hk
  inj:=λc c' g cp cp' hl hl' hk hk'=>by
   rcases hcase c hl with⟨e,hl⟩|⟨hcs,hcb,hl⟩
   . rcases hcase c' hl' with⟨e',_⟩|⟨hcs',hcb',hl'⟩
     .rw[e,e']
     .simp only[if_pos e]at hk;simp only[if_neg hcs']at hk';exact absurd (h.inj b c' g cp cp' hl hl' hk hk').symm hcb'
   . simp only[if_neg hcs]at hk;rcases hcase c' hl' with⟨e',hl'⟩|⟨hcs',hcb',hl'⟩
     .simp only[if_pos e']at hk';exact absurd (h.inj c b g cp cp' hl hl' hk hk') hcb
     .simp only[if_neg hcs']at hk';exact h.inj c c' g cp cp' hl hl' hk hk'
  ents:=λc en hc=>by
   unfold renL at hc;by_cases hcs:c=s
   . rw[if_pos hcs]at hc
     cases hb0:L b with
     |none=>simp[hb0]at hc
     |some ent=>simp only[hb0,zcM,zaf]at hc;subst hc;simp only[if_pos hcs];exact hE b ent hb0
   . rw[if_neg hcs]at hc;by_cases hcb:c=b
     .rw[if_pos hcb]at hc;cases hc
     . rw[if_neg hcb]at hc
       cases hc0:L c with
       |none=>simp[hc0]at hc
       |some ent=>simp only[hc0,zcM,zaf]at hc;subst hc;simp only[if_neg hcs];exact hE c ent hc0
  slots:=λk=>zGQ hD hκ 4 (h.slots k) }
def zDv(s:Nat)(st:St):look (del s st).m s=none:=by show look (delM s st.m) s=none;rw[ziW];simp[killL]
def zDU{s:Nat}{st:St}(hs:s<1000)(h:GoodF w0 S0 κ0 K N (fs st) a w)(b:Nat):GoodF w0 S0 κ0 K N (fs (if b=s then st else if b<1000 then renS b s (del s st)else st)) a w:=by
 split
 .exact h
 . rename_i hbs;split
   case isFalse=>exact h
   rename_i hb;obtain⟨S,κ,h1⟩:=h.del s;have:=h1.ren hb hs hbs (zDv s st);have e1:(fs (renS b s (del s st))).1=λk=>((fs (del s st)).1 k).ren b s 4:=funext λk=>zDL b s _ k
   have e2:(fs (renS b s (del s st))).2=renL b s (fs (del s st)).2:=funext λc=>zAY hbs _ c (zDv s st)
   rw[<-e1,<-e2]at this;exact⟨S,_,this⟩
def cell1_good{B j s z:Nat}{e:TypeId}{st:St}(h:GoodF w0 S0 κ0 K N (fs st) a w):GoodF w0 S0 κ0 K N (fs (cell1 B j s z e st)) a w:=by
 unfold cell1;split
 case isFalse =>
  split
  case isFalse=>exact h
  split
  case h_2=>exact h
  rename_i ent hB;split
  case h_2=>exact h
  rename_i cs hbx hes;split
  case h_2=>exact h
  rename_i hj;obtain⟨S,κ,h1⟩:=h
  have h2:=h1.recell (B:=B) (j:=j) (ent:=ent) (cs:=cs) (a0:=.v (.slice none 0 0)) (a1:=.sl z []) hB hbx hes hj (λx hx=>by
   have hx':=VRel.v_inv hx;subst hx'
   exact .c (CRel.nil_sl z))
  have e2:(fs ({ t:=st.t,m:=repM (B,{ ent with es:=[cs.set j (.sl z [])] }) st.m }:St)).2=(λb=>if b=B then some { ent with es:=[cs.set j (.sl z [])] }else(fs st).2 b):=funext λc=>by show look (repM _ _) c=_;rw[ztc _ _ _ (by simp[hB])];rfl
  rw[<-e2]at h2;exact⟨S,κ,h2⟩
 rename_i hc;obtain⟨hs,hBs,hzp⟩:=hc;split
 case h_2=>exact h
 split
 case h_2=>exact h
 split
 .exact zDU hs h _
 .exact zDU hs h _
 . simp only;split
   case h_2=>exact h
   rename_i ent' hB';split
   case h_2=>exact h
   rename_i cs' hbx hes;split
   case h_2=>exact h
   rename_i hj;obtain⟨S,κ,h1⟩:=h.del s;have h2:=h1.addNil hs (zDv s st) z e hzp
   have h3:=h2.recell (B:=B) (j:=j) (ent:=ent') (cs:=cs') (a0:=.v (.slice none 0 0)) (a1:=.row s z 0 0) (by rw[if_neg hBs];exact hB') hbx hes hj (λx hx=>by
    have hx':=VRel.v_inv hx;subst hx'
    exact .row0 s z (by simp) (by simp))
   have e2:(fs ({ t:=(del s st).t,m:=(s,{ z:=z,e:=e,es:=[],box:=false })::repM (B,{ ent' with es:=[cs'.set j (.row s z 0 0)] }) (del s st).m }:St)).2 =
     (λb=>if b=B then some { ent' with es:=[cs'.set j (.row s z 0 0)] }else if b=s then some { z:=z,e:=e,es:=[],box:=false }else(fs (del s st)).2 b):=funext λc=>by
    show look ((s,_)::repM _ _) c=_;simp only[look];rw[ztc _ _ _ (by simp[hB'])];by_cases hcs:c=s
    .grind
    .rw[if_neg hcs];simp only[if_neg hcs];rfl
   rw[<-e2]at h3;exact⟨S,_,h3⟩
 .exact h
def zAD{a:Act}{w:World}:∀(l:List (Nat×Nat×Nat×Nat×TypeId)) (st:St),GoodF w0 S0 κ0 K N (fs st) a w->GoodF w0 S0 κ0 K N (fs (zsm l st)) a w
 |[],_,h=>h
 |_::l,_,h=>zAD l _ (cell1_good h)
end
end
section
variable[Dr]
section
variable{P:Program}{C:Cfg}{N:Nat}{w0:World}{S0:aD}{κ0:Kap}{K:aD}
def GoodF.forget{x y:FS}{a:Act}{w:World}(h:GoodF w0 S0 κ0 K N x a w)(h1:∀k,y.1 k=x.1 k\/y.1 k=.bot)(h2:y.2=x.2):GoodF w0 S0 κ0 K N y a w:=by
 obtain⟨S,κ,h⟩:=h;obtain⟨y1,y2⟩:=y;simp only at h1 h2;subst h2;refine⟨S,κ,{ h with slots:=λk=>?_ }⟩;rcases h1 k with e|e
 .simp only;rw[e];exact h.slots k
 .simp only;rw[e];exact .bot _
def zzs:∀(l:aO) (t:Tab) (k:Nat),get (zlj l t) k=get t k\/get (zlj l t) k=.bot
 |[],t,k=>.inr rfl
 |j::l,t,k=>by
   have ih:=zzs l t k;simp only[zlj];split
   .exact ih
   . rename_i hne;simp only[get]
     grind
def own1_good{s z:Nat}{e:TypeId}{st:St}{a:Act}{w:World}(h:GoodF w0 S0 κ0 K N (fs st) a w):GoodF w0 S0 κ0 K N (fs (own1 s z e st)) a w:=by
 unfold own1;split
 case isFalse=>exact h
 rename_i hs;obtain⟨hs,hzp⟩:=hs;split
 . rename_i hv
   have hval:a.tmps.getD s undef=.slice none 0 0:=by obtain⟨S,κ,h'⟩:=h;have:=h'.slots s;simp only[fs]at this;rw[hv]at this;exact this.v_inv
   obtain⟨S,κ,h1⟩:=h.del s
   have hns:((fs (del s st)).2 s).isSome=false:=by show(look (delM s st.m) s).isSome=false;rw[ziW];simp[killL]
   generalize hst:del s st=st1 at h1 hns
   let κ':Kap:=λb=>if b=s then none else κ b
   have hne:∀b,((fs st1).2 b).isSome=true->b≠s:=λb hb e=>by simp_all
   have hD:∀b,((fs st1).2 b).isSome=true->(look ((s,{ z:=z,e:=e,es:=[],box:=false })::st1.m) b).isSome=true:=λb hb=>by simp only[look];rw[if_neg (hne b hb)];exact hb
   have hκ:∀b,((fs st1).2 b).isSome=true->κ' b=κ b:=λb hb=>if_neg (hne b hb)
   have hcase:∀b,(look ((s,{ z:=z,e:=e,es:=[],box:=false })::st1.m) b).isSome=true->b=s\/(b≠s/\((fs st1).2 b).isSome=true):=λb hb=>by
    by_cases hbs:b=s
    .exact .inl hbs
    .simp only[look]at hb;rw[if_neg hbs]at hb;exact .inr ⟨hbs,hb⟩
   refine⟨S,κ',{ h1 with
    par:=λb hb=>by have:b≠s:=by omega
                   simp only[κ'];rw[if_neg this];exact h1.par b hb
    parK:=λb hb hl=>by
     rcases hcase b hl with e|⟨_,hl⟩
     .omega
     .exact h1.parK b hb hl
    own:=λb g c hb hl hk=>by
     rcases hcase b hl with e|⟨hbs,hl⟩
     .grind
     .rw[hκ b hl]at hk;exact h1.own b g c hb hl hk
    inj:=λb b' g c c' hl hl' hk hk'=>by
     rcases hcase b hl with e|⟨hbs,hl⟩
     .grind
     . rcases hcase b' hl' with e|⟨hbs',hl'⟩
       .grind
       .rw[hκ b hl]at hk;rw[hκ b' hl']at hk';exact h1.inj b b' g c c' hl hl' hk hk'
    ents:=λb ent hb=>by
     simp only[fs,look]at hb;by_cases hbs:b=s
     .subst hbs;simp at hb;subst hb;refine EntAt.of (.inr hzp) ⟨by simp,?_⟩;simp[κ']
     . rw[if_neg hbs]at hb;have hl:((fs st1).2 b).isSome=true:=by simp[fs,hb]
       have hE:=h1.ents b ent hb;rw[hκ b hl];refine hE.mono (λ_ h=>h) (λ_ _=>rfl) hD hκ (λg c hk=>⟨rfl,?_⟩);rw[hk]at hE;exact hE.notS
    slots:=λk=>by
     simp only[fs,get];by_cases hks:k=s
     .subst hks;rw[if_pos rfl,hval];exact .row0 k z (by simp[look]) (by simp[κ'])
     . rw[if_neg hks]
       exact(h1.slots k).mono (λ_ h=>h) (λ_ _=>rfl) hD hκ }⟩
 . rename_i b z' off n hv;split
   .exact h
   . rename_i hbs;split
     . rename_i ent hent;split
       case isFalse=>exact h
       rename_i hc;obtain⟨hb1,rfl,hn,hbx,hz⟩:=hc;obtain⟨S,κ,h0⟩:=h;have hslot:=h0.slots s;have hE0:=h0.ents b ent hent;have hLb:((fs st).2 b).isSome=true:=by simp[fs,hent]
       simp only[fs]at hslot;rw[hv]at hslot;have h1:=(h0.del s).del b
       have e1:(fs (del b (del s st))).1=λk=>(((fs st).1 k).kill s 4).kill b 4:=funext λk=>by show get (killT b (killT s st.t)) k=_;rw[zox,zox];rfl
       have e2:(fs (del b (del s st))).2=killL b (killL s (fs st).2):=funext λc=>by
        show look (delM b (delM s st.m)) c=_;rw[ziW];have:look (delM s st.m)=killL s (fs st).2:=funext λc=>ziW s st.m c
        rw[this]
       rw[<-e1,<-e2]at h1
       have hgone:∀c,((fs (del b (del s st))).2 c).isSome=true->c≠s/\c≠b/\((fs st).2 c).isSome=true:=by
        intro c hc;rw[e2]at hc;simp only[killL]at hc;split at hc
        .cases hc
        .grind
       generalize hst:del b (del s st)=st1 at h1 hgone
       let κ':Kap:=λc=>if c=s then κ b else κ c
       have hne:∀c,((fs st1).2 c).isSome=true->c≠s:=λc hc=>(hgone c hc).1
       have hD:∀c,((fs st1).2 c).isSome=true->(look ((s,ent)::st1.m) c).isSome=true:=λc hc=>by simp only[look];rw[if_neg (hne c hc)];exact hc
       have hκ:∀c,((fs st1).2 c).isSome=true->κ' c=κ c:=λc hc=>if_neg (hne c hc)
       have hcase:∀c,(look ((s,ent)::st1.m) c).isSome=true->c=s\/(c≠s/\((fs st1).2 c).isSome=true):=λc hc=>by
        by_cases hcs:c=s
        .exact .inl hcs
        .simp only[look]at hc;rw[if_neg hcs]at hc;exact .inr ⟨hcs,hc⟩
       have hapart:∀c g cp cp',((fs st1).2 c).isSome=true->κ b=some (g,cp)->κ c≠some (g,cp'):=λc g cp cp' hc hk hk'=>by obtain⟨_,h2,h3⟩:=hgone c hc;exact h2 (h0.inj c b g cp' cp h3 hLb hk' hk)
       refine⟨S,κ',{ h1 with
        par:=λc hc=>by have:c≠s:=by omega
                       simp only[κ'];rw[if_neg this];exact h1.par c hc
        parK:=λc hc hl=>by
         rcases hcase c hl with e|⟨_,hl⟩
         .omega
         .exact h1.parK c hc hl
        own:=λc g cp hc hl hk=>by
         rcases hcase c hl with e|⟨hcs,hl⟩
         .subst e;simp[κ']at hk;exact h0.own b g cp hb1 hLb hk
         .rw[hκ c hl]at hk;exact h1.own c g cp hc hl hk
        inj:=λc c' g cp cp' hl hl' hk hk'=>by
         rcases hcase c hl with e|⟨hcs,hl1⟩
         . subst e;simp[κ']at hk;rcases hcase c' hl' with e|⟨hcs',hl'⟩
           .exact e.symm
           simp_all
         . rw[hκ c hl1]at hk;rcases hcase c' hl' with e|⟨hcs',hl2⟩
           .grind
           .rw[hκ c' hl2]at hk';exact h1.inj c c' g cp cp' hl1 hl2 hk hk'
        ents:=λc en hc=>by
         simp only[fs,look]at hc;by_cases hcs:c=s
         . subst hcs;simp at hc;subst hc;have hkb:κ' c=κ b:=by simp[κ']
           rw[hkb];exact hE0.handed (λ_ h=>h) (λg cp hk=>by rw[hk]at hE0;exact hE0.notS) (λhb'=>by simp_all)
         . rw[if_neg hcs]at hc;have hl:((fs st1).2 c).isSome=true:=by simp[fs,hc]
           have hE:=h1.ents c en hc;rw[hκ c hl];refine hE.mono (λ_ h=>h) (λ_ _=>rfl) hD hκ (λg cp hk=>⟨rfl,?_⟩);rw[hk]at hE;exact hE.notS
        slots:=λk=>by
         simp only[fs,get];by_cases hks:k=s
         . subst hks;rw[if_pos rfl];generalize a.tmps.getD k undef=q at hslot
           cases hslot with
           |c h=>cases h
           |row0 _ _ hd hk=>exact .row0 k _ (by simp[look]) (by simp[κ',hk])
           |row _ _ _ _ g cp off' cap hd hk hnc ho hcc=>exact .row k _ 0 _ g cp off' cap (by simp[look]) (by simp[κ',hk]) hnc ho hcc
         . rw[if_neg hks]
           exact(h1.slots k).mono (λ_ h=>h) (λ_ _=>rfl) hD hκ }⟩
     .exact h
 .exact zDU hs h _
 .exact h
def zCM{a:Act}{w:World}:∀(l:List (Nat×Nat×TypeId)) (st:St),GoodF w0 S0 κ0 K N (fs st) a w->GoodF w0 S0 κ0 K N (fs (ownAll l st)) a w
 |[],_,h=>h
 |_::l,_,h=>zCM l _ (own1_good h)
def zCz{a:Act}{w:World}:∀(l:aO) (st:St),GoodF w0 S0 κ0 K N (fs st) a w->GoodF w0 S0 κ0 K N (fs (delAll l st)) a w
 |[],_,h=>h
 |b::l,_,h=>zCz l _ (h.del b)
def zGr(p:Nat×Ent):∀(m:Mem) (b:Nat),look (insM p m) b=if b=p.1 then some p.2 else look m b
 |[],b=>by obtain⟨j,e⟩:=p;simp only[insM,look]
 |(j,e)::r,b=>by
   simp only[insM];split
   .obtain⟨i,e'⟩:=p;simp only[look]
   . rename_i hle;simp only[look,zGr p r b]
     grind
def zuR:∀(m:Mem) (b:Nat),look (sortM m) b=look m b
 |[],_=>rfl
 |(j,e)::r,b=>by simp only[sortM,zGr,look,zuR r b]
def GoodF.sorted{st:St}{a:Act}{w:World}(h:GoodF w0 S0 κ0 K N (fs st) a w):GoodF w0 S0 κ0 K N (fs { st with m:=sortM st.m }) a w:=by
 have:fs { st with m:=sortM st.m }=fs st:=by unfold fs;simp only;congr 1;funext b;exact zuR st.m b
 rw[this];exact h
def zxR{bs:aO}{st:St}{a:Act}{w:World}(h:GoodF w0 S0 κ0 K N (fs st) a w)(hN:N<=1000)(hb:∀b∈bs,b<1000/\(look st.m b).isSome=true):GoodF w0 S0 κ0 K N (fs (zd8 bs st)) a w:=by
 obtain⟨S,κ,hg⟩:=h
 let o:Oper:={ dst:=none,op:=.move (.const undef),type:=0,pos := "",after:=#[],guard:=none }
 let r:Res:={ val:=.v undef,frz:=bs }
 let S1:Nat->Prop:=λg=>S g\/∃b c,b∈bs/\(look st.m b).isSome=true/\κ b=some (g,c)
 have he:EffAt S κ (λb=>(look st.m b).isSome=true) w S1 κ r undef w:={
  os:=rfl
  tape:=rfl
  output:=.of
  size:=zav _
  blk:=λ_ _ _=>rfl
  sup:=λ_ h=>.inl h
  snew:=λg hs=>by grind
  slt:=λg hs=>by
   rcases hs with h1|⟨b,c,h1,h2,h3⟩
   .exact hg.slt g h1
   .obtain⟨ent,he⟩:=zaT.1 h2;have:=hg.ents b ent he;rw[h3]at this;exact this.lt
  sfrz:=λb hm g c hk=>.inr ⟨b,c,hm,(hb b hm).2,hk⟩
  kold:=λ_ _ _=>rfl
  kout:=λ_ _=>rfl
  knew:=λb _ hm=>by simp[ids,r]at hm
  one:=λb b' _ _ hm=>by simp[ids,r]at hm
  res:=λb hb=>by cases hb
  ents:=λb ent hm=>by simp[r]at hm
  val:=.c (.v _) }
 have hd:Dis (λb=>(look st.m b).isSome=true) r:=λb hm=>⟨(hb b hm).2,by simp[ids,r],by simp[r]⟩
 have hs:Shape o (look st.m) r:=⟨λb h=>by simp[r]at h,λb h=>by simp[ids,r]at h,λb h=>(hb b h).1,λb h=>by simp[r]at h⟩
 have h2:=hg.apply (o:=o) hN rfl he hd hs;refine⟨S1,κ,?_⟩
 have e1:applyT none r (get st.t) (look st.m)=get (zd8 bs st).t:=by
  funext k
  cases bs with
  |nil=>rfl
  |cons c cs=>simp only[applyT,zd8,zxi];rfl
 have e2:applyL r (look st.m)=look (zd8 bs st).m:=by
  funext k
  cases bs with
  |nil=>rfl
  |cons c cs=>simp only[applyL,zd8,zvv];rfl
 simp only[fs];rw[<-e1,<-e2];exact h2
def zAV{l:aO}{st:St}{a:Act}{w:World}(h:GoodF w0 S0 κ0 K N (fs st) a w)(hN:N<=1000):GoodF w0 S0 κ0 K N (fs (znm l st)) a w:=by
 unfold znm;split
 .exact h
 . split
   . rename_i hc;refine zxR h hN (λb hb=>?_)
     simp_all
   .exact h
def tidy_good{A:Ann}{id:Nat}{st:St}{a:Act}{w:World}(h:GoodF w0 S0 κ0 K N (fs st) a w)(hN:N<=1000):GoodF w0 S0 κ0 K N (fs (tidy A id st)) a w:=by
 have h1:=zAD (A.cel id) _ (zCM (A.own id) _ (zAV (l:=A.fz id) h hN));unfold tidy;simp only;split
 .rename_i l _;exact GoodF.sorted (zCz _ _ (GoodF.forget (y:=fs { zsm (A.cel id) (ownAll (A.own id) (znm (A.fz id) st))with t:=zlj l (zsm (A.cel id) (ownAll (A.own id) (znm (A.fz id) st))).t }) h1 (λk=>zzs _ _ k) rfl))
 .exact h1
def Ex.toExit:Ex->Exit
 |.normal=>.normal
 |.exit id=>.exit id
 |.ret=>.ret
def PostC(w0:World)(S0:aD)(κ0:Kap)(K:aD)(N:Nat)(ex:Ex)(st:St)(e:Exit)(a:Act)(w:World):Prop:=e=ex.toExit/\GoodF w0 S0 κ0 K N (fs st) a w
def zE5{c:Code}{step:St->Option (Ex×St)}(hstep:∀st ex st',step st=some (ex,st')->∀a w,GoodF w0 S0 κ0 K N (fs st) a w->c.wp P (PostC w0 S0 κ0 K N ex st') a w):∀(n:Nat) (st:St) (ex:Ex) (st':St),iter n step st=some (ex,st')->∀a w,GoodF w0 S0 κ0 K N (fs st) a w->Code.rounds P c (PostC w0 S0 κ0 K N ex st') n a w
 |0,st,ex,st',h,_,_,_=>by simp[iter]at h
 |n+1,st,ex,st',h,a,w,hg=>by
   rw[rounds_succ];simp only[iter]at h
   cases hs:step st with
   |none=>simp[hs]at h
   |some q =>
     obtain⟨e1,st1⟩:=q;rw[hs]at h;have hw:=hstep st e1 st1 hs a w hg
     cases e1 with
     |normal =>
       simp only at h;refine wp_mono hw ?_
       rintro e a' w' ⟨rfl,hg'⟩
       exact zE5 hstep n st1 ex st' h a' w' hg'
     |exit id =>
       simp only[zG]at h;obtain⟨rfl,rfl⟩:=h;refine wp_mono hw ?_
       rintro e a' w' ⟨rfl,hg'⟩
       exact⟨rfl,hg'⟩
     |ret =>
       simp only[zG]at h;obtain⟨rfl,rfl⟩:=h;refine wp_mono hw ?_
       rintro e a' w' ⟨rfl,hg'⟩
       exact⟨rfl,hg'⟩
def zCu{A:Ann}{call:zcR}{n:Nat}(hcall:CallOK P call)(hN:N<=1000):∀(c:Code) (st:St) (ex:Ex) (st':St),aeval P C A N call (iter n) c st=some (ex,st')->∀a w,GoodF w0 S0 κ0 K N (fs st) a w->c.wp P (PostC w0 S0 κ0 K N ex st') a w:=by
 intro c
 induction c with
 |skip=>intro st ex st' h a w hg;simp[aeval]at h;obtain⟨rfl,rfl⟩:=h;exact wp_skip ⟨rfl,hg⟩
 |region id ops draw =>
   intro st ex st' h a w hg;simp only[aeval]at h;split at h
   .rename_i st1 h1;simp only[zG]at h;obtain⟨rfl,rfl⟩:=h;exact zKr hcall hN h1 (zAV hg hN) (λa' w' hg'=>⟨rfl,tidy_good hg' hN⟩)
   .cases h
 |seq x y ihx ihy =>
   intro st ex st' h a w hg;simp only[aeval]at h;refine wp_seq ?_
   cases hx:aeval P C A N call (iter n) x st with
   |none=>simp[hx]at h
   |some q =>
     obtain⟨e1,st1⟩:=q;rw[hx]at h;have hw:=ihx st e1 st1 hx a w hg
     cases e1 with
     |normal =>
       simp only at h;refine wp_mono hw ?_
       rintro e a' w' ⟨rfl,hg'⟩
       exact ihy st1 ex st' h a' w' hg'
     |exit id =>
       simp only[zG]at h;obtain⟨rfl,rfl⟩:=h;refine wp_mono hw ?_
       rintro e a' w' ⟨rfl,hg'⟩
       exact⟨rfl,hg'⟩
     |ret =>
       simp only[zG]at h;obtain⟨rfl,rfl⟩:=h;refine wp_mono hw ?_
       rintro e a' w' ⟨rfl,hg'⟩
       exact⟨rfl,hg'⟩
 |cond c x y ihx ihy =>
   intro st ex st' h a w hg;simp only[aeval]at h;split at h
   case h_2=>cases h
   rename_i b hb
   have hev:a.eval c=.bool b:=by
    obtain⟨S,κ,hg'⟩:=hg
    cases c with
    |tmp k=>have:=hg'.slots k;simp only[fs]at this;simp only[ev]at hb;rw[hb]at this;exact this.v_inv
    |const v=>simp only[ev]at hb;cases hb;rfl
    |func f=>simp[ev]at hb
    |global g=>simp[ev]at hb
   refine wp_cond hev ?_
   grind
 |block id c ih =>
   intro st ex st' h a w hg;simp only[aeval]at h;refine wp_block ?_
   cases hx:aeval P C A N call (iter n) c st with
   |none=>simp[hx]at h
   |some q =>
     obtain⟨e1,st1⟩:=q;rw[hx]at h;have hw:=ih st e1 st1 hx a w hg;refine wp_mono hw ?_
     rintro e a' w' ⟨rfl,hg'⟩
     cases e1 with
     |normal=>simp only[zG]at h;obtain⟨rfl,rfl⟩:=h;exact⟨rfl,hg'⟩
     |exit j =>
       simp only at h;show Exit.inBlock id _ (.exit j) a' w';simp only[Exit.inBlock];split at h
       .rename_i hj;simp only[zG]at h;obtain⟨rfl,rfl⟩:=h;rw[if_pos hj];exact⟨rfl,hg'⟩
       .rename_i hj;simp only[zG]at h;obtain⟨rfl,rfl⟩:=h;rw[if_neg hj];exact⟨rfl,hg'⟩
     |ret=>simp only[zG]at h;obtain⟨rfl,rfl⟩:=h;exact⟨rfl,hg'⟩
 |loop c ih=>intro st ex st' h a w hg;simp only[aeval]at h;exact wp_loop_rounds n (zE5 ih n st ex st' h a w hg)
 |exit id=>intro st ex st' h a w hg;simp[aeval]at h;obtain⟨rfl,rfl⟩:=h;exact wp_exit ⟨rfl,hg⟩
 |ret=>intro st ex st' h a w hg;simp[aeval]at h;obtain⟨rfl,rfl⟩:=h;exact wp_ret ⟨rfl,hg⟩
 |rangeFunc=>intro st ex st' h;simp[aeval]at h
 |scope=>intro st ex st' h;simp[aeval]at h
 |label=>intro st ex st' h;simp[aeval]at h
 |goto=>intro st ex st' h;simp[aeval]at h
 |refuse=>intro st ex st' h;simp[aeval]at h
end
end
variable[Dr]
def single(f0:FuncId)(o:zcR):zcR:=λf a m=>if f=f0 then o f a m else none
def orcG(P:Program)(o:zcR):zcR:=λf a m=>@ite _ (CallOK P (single f o)) (Classical.propDecidable _) (o f a m) none
def orcG_ok(P:Program)(o:zcR):CallOK P (orcG P o):=by
 intro f args ms r ms' h;unfold orcG at h;split at h
 .rename_i hok;exact hok f args ms r ms' (by unfold single;grind)
 .cases h
def orcG_none{P:Program}{o:zcR}{f:FuncId}{a:aN}{m:Mem}(h:o f a m=none):orcG P o f a m=none:=by
 unfold orcG
 simp_all
def orcG_some{P:Program}{o:zcR}{f:FuncId}{a:aN}{m:Mem}{r:AV×Mem}(hok:CallOK P (single f o))(h:o f a m=some r):orcG P o f a m=some r:=by
 unfold orcG
 grind
def acall(P:Program)(C:Cfg)(A:AnnF):Nat->zcR
 |0,_,_,_=>none
 |n+1,f,args,ms=>match orcG P C.orc f args ms with
  |some r=>some r
  |none=>match P.funcs[f]? with
   |none=>none
   |some fn=>match fn.body with
     |none=>none
     |some c=>if fn.ntmps<=1000/\args.length<=fn.ntmps/\enters P f=true then
       (match aeval P C (A f) fn.ntmps (acall P C A n) (iter n) c { t:=argTab 0 args,m:=ms }with
       |some (.exit _,_)=>none
       |some (_,st)=>match zoI P (A f).frz fn st,zoV st.m ms with
         |some r,some ms'=>zxV r ms'
         |_,_=>none
       |none=>none)else none
section
variable{P:Program}{C:Cfg}{A:AnnF}
def zKs{S:aD}{κ:Kap}{D:aD}{w:World}{st:St}{tm:aV}(hT:∀k,VRel S κ D w (get st.t k) (tm.getD k undef))(hL:∀b ent,look st.m b=some ent->EntAt S κ D w (κ b) ent)
  {rv:ResultVar} {a:AV} (h:resVar P st rv=some a):∃x,((match rv with|.tmp t=>pure (tm.getD t undef)|.cell p t=>do loadVar t (<-asAddr (tm.getD p undef)):Sem Value)).run P w=.ok x w/\VRel S κ D w a x:=by
 cases rv with
 |tmp t =>
   simp only[resVar]at h;split at h
   .cases h
   . rename_i a' ha;injection h with h;subst h
     simp_all
 |cell p t =>
   simp only[resVar]at h;split at h
   case h_2=>cases h
   rename_i r hr;injection h with h;subst h;have hp:=hT p;obtain⟨y,h1,h2,_⟩:=zw3 hr hp hL;refine⟨y,?_,h2⟩
   have hptr:∃ad,tm.getD p undef=.pointer (some ad):=by
    generalize tm.getD p undef=q at hp;generalize get st.t p=av at hp hr;cases av<;>simp[aLoad]at hr
    case fp cs=>have:=hp.fp_inv;cases this;exact⟨_,rfl⟩
    case loc b z i o=>obtain⟨g,c,_,_,rfl⟩:=hp.loc_inv;exact⟨_,rfl⟩
   obtain⟨ad,had⟩:=hptr;rw[had]at h1;show(do loadVar t (<-asAddr (tm.getD p undef)):Sem Value).run P w=_;rw[had];simpa[Instr.loadAt,Instr.sureAddr,asAddr]using h1
def zt0{S:aD}{κ:Kap}{D:aD}{w:World}{st:St}{tm:aV}(hT:∀k,VRel S κ D w (get st.t k) (tm.getD k undef))(hL:∀b ent,look st.m b=some ent->EntAt S κ D w (κ b) ent){fn:Func}{l:aN}
  (h:mapO (resVar P st) fn.results.toList=some l):∃x,(results fn tm).run P w=.ok x w/\((∃a,l=[a]/\VRel S κ D w a x)\/(l.length≠1/\VRel S κ D w (.tup l) x)):=by
 obtain⟨h1,h2⟩:=zms h
 let f:ResultVar->Sem Value:=λrv=>match rv with|.tmp t=>pure (tm.getD t undef)|.cell p t=>do loadVar t (<-asAddr (tm.getD p undef))
 have key:∀(rs:List ResultVar) (l:aN),l.length=rs.length->(∀(j:Nat) (rv:ResultVar),rs[j]?=some rv->∃b,l[j]?=some b/\resVar P st rv=some b)->∃vs:List Value,(rs.mapM f).run P w=.ok vs w/\vs.length=l.length/\∀(j:Nat) (c:AV) (x:Value),l[j]?=some c->vs[j]?=some x->VRel S κ D w c x:=by
  intro rs
  induction rs with
  |nil=>simp_all
  |cons rv rs ih =>
    intro l hl hr
    cases l with
    |nil=>simp at hl
    |cons a l =>
      obtain⟨b,hb,hrv⟩:=hr 0 rv rfl;simp at hb;subst hb;obtain⟨x,hx,hv⟩:=zKs hT hL hrv;obtain⟨vs,e1,e2,e3⟩:=ih l (by simpa using hl) (λj rv' hj=>by simpa using hr (j+1) rv' (by simpa using hj));refine⟨x::vs,?_,by simp[e2],λj c y hj hy=>?_⟩
      . have hx':(f rv).run P w=.ok x w:=hx
        simp_all
      grind
 obtain⟨vs,e1,e2,e3⟩:=key fn.results.toList l h1 h2
 have hm:(fn.results.mapM f).run P w=.ok vs.toArray w:=by
  obtain⟨rl⟩:∃rl:List ResultVar,fn.results=rl.toArray:=⟨fn.results.toList,by simp⟩
  rename_i hrl;rw[hrl,List.mapM_toArray];rw[hrl]at e1;simp only at e1;simp only[Sem.run_map,e1,Result.andThen_ok]
 by_cases hl1:vs.length=1
 . match vs,hl1 with
   |[x],_ =>
     match l,e2 with
     |[a],_ =>
       refine⟨x,?_,.inl ⟨a,rfl,e3 0 a x rfl rfl⟩⟩
       have:(results fn tm).run P w=((fn.results.mapM f).run P w).andThen λvs w'=>.ok (if h:vs.size=1 then vs[0]else .tuple vs) w':=by simp only[results,Sem.run_bind];rfl
       rw[this,hm];rfl
 . refine⟨.tuple vs.toArray,?_,.inr ⟨by omega,.tup l _ (by simpa using e2) (λj c x hj hx=>e3 j c x hj (by simpa using hx))⟩⟩
   have:(results fn tm).run P w=((fn.results.mapM f).run P w).andThen λvs w'=>.ok (if h:vs.size=1 then vs[0]else .tuple vs) w':=by simp only[results,Sem.run_bind];rfl
   simp_all
def ztz{is:aO}{m:Mem}:∀{ms ms':Mem},zj2 is m ms=some ms'->(∀c,(look ms c).isSome=true->900<=c->c<950->(look ms' c).isSome=true)/\∀b ent,look ms' b=some ent->(look ms b).isSome=true/\look m b=some ent/\((1000<=b/\(ent.box=false\/allL (λcs=>allL (λa=>a.isC 4||nref is a) cs) ent.es=true))\/(900<=b/\b<950/\ent.box=false))
 |[],ms',h=>by simp[zj2]at h;subst h;simp[look]
 |(k,e)::r,ms',h=>by
   have lift:∀{l:Mem} {en:Ent},zj2 is m r=some l->look m k=some en->((1000<=k/\(en.box=false\/allL (λcs=>allL (λa=>a.isC 4||nref is a) cs) en.es=true))\/(900<=k/\k<950/\en.box=false))->ms'=(k,en)::l->(∀c,(look ((k,e)::r) c).isSome=true->900<=c->c<950->(look ms' c).isSome=true)/\∀b ent,look ms' b=some ent->(look ((k,e)::r) b).isSome=true/\look m b=some ent/\((1000<=b/\(ent.box=false\/allL (λcs=>allL (λa=>a.isC 4||nref is a) cs) ent.es=true))\/(900<=b/\b<950/\ent.box=false)):=by
    intro l en hr hk hc he;obtain⟨i1,i2⟩:=ztz hr;subst he;refine⟨λc h1 h2 h3=>?_,λb ent hb=>?_⟩
    . simp only[look]at h1 ⊢
      grind
    . simp only[look]at hb ⊢
      grind
   simp only[zj2]at h;split at h
   . rename_i hlt;split at h
     .grind
     . rename_i hn;obtain⟨i1,i2⟩:=ztz h;refine⟨λc h1 h2 h3=>?_,λb ent hb=>?_⟩
       . refine i1 c ?_ h2 h3;simp only[look]at h1
         grind
       . obtain⟨q1,q2⟩:=i2 b ent hb;refine⟨?_,q2⟩;simp only[look]
         grind
   grind
def ent_tail{S S':aD}{κ:Kap}{D D':aD}{w:World}{kb:ag}{ent:Ent}(h:EntAt S κ D w kb ent)(hS:∀g,S g->S' g)
  (hn:∀g c,kb=some (g,c)->¬S' g) (hcl:ent.box=true->∀cs∈ent.es,∀a∈cs,∀x,VRel S κ D w a x->VRel S' κ D' w a x):EntAt S' κ D' w kb ent:=by
 refine⟨λhc=>?_,λhc=>?_⟩
 . obtain⟨q1,q2⟩:=h.1 hc;refine⟨q1,?_⟩
   cases kb with
   |none=>exact q2
   |some gc=>obtain⟨g,c⟩:=gc;obtain⟨cells,c1,c2,c3,c4,c5,c6⟩:=q2;refine⟨cells,c1,c2,c3,c4,hn g c rfl,λi j cs a hi hj=>?_⟩;obtain⟨u,u1,u2,u3,u4⟩:=c6 i j cs a hi hj;exact⟨u,u1,u2,λhbx=>hcl hbx cs (zau hi) a (zau hj) u (u3 hbx),λhbx=>(u4 hbx).mono hS (λ_ _=>rfl)⟩
 .exact(h.2 hc).mono hS (λ_ _=>rfl) (λg c hk=>⟨rfl,hn g c hk⟩)
def nref_keep{S S':aD}{κ:Kap}{D D':aD}{w:World}{is:aO}(hD:∀c∈is,900<=c->c<950->D' c){a:AV}{x:Value}(h:nref is a=true)(hv:VRel S κ D w a x):VRel S' κ D' w a x:=by
 cases a with
 |row c z off n =>
   cases off with
   |zero =>
     simp only[zO,nref]at h;have hd:=hD c (by simpa using h.2.2) h.1 h.2.1
     cases hv with
     |c h=>cases h
     |row0 _ _ hd' hk=>exact .row0 c z hd hk
     |row _ _ _ _ g cc off' cap hd' hk hn ho hc=>exact .row c z 0 n g cc off' cap hd hk hn ho hc
   |succ o=>simp[nref]at h
 |map c=>simp only[zO,nref]at h;have hd:=hD c (by simpa using h.2.2) h.1 h.2.1;obtain⟨g,cc,hd',hk,rfl⟩:=hv.map_inv;exact .map c g cc hd hk
 |_=>simp[nref]at h
def zyj:∀(args:aN) (i k:Nat),get (argTab i args) k=if i<=k then(args[k-i]?).getD .bot else .bot
 |[],i,k=>by simp[argTab,get]
 |a::r,i,k=>by
   simp only[argTab,get];by_cases hk:k=i
   .subst hk;simp
   . rw[if_neg hk,zyj r (i+1) k]
     grind
def noNewTup{q:Prop}{S:aD}{w:World}{z:Nat}{e:TypeId}{es:aS}{u x:Value}(h:CRel S w (.tup [.new z e es,.v u]) x):q:=by
 cases h with
 |tup _ vs hl hr =>
   have h0:0<vs.size:=by rw[hl];simp
   cases hr 0 _ vs[0] rfl (zaN h0)
def zwg{P:Program}{f:FuncId}{fn:Func}{c:Code}{frz:Bool}{args:aN}{ms ms':Mem}{r:AV}{vals:aV}{w:World}{S:aD}{κ:Kap}{ex:Ex}{st:St}(hf:P.funcs[f]?=some fn)(hb:fn.body=some c)(hargs:args.length<=fn.ntmps)
  (hvl:vals.size=args.length) (hS:∀g,S g->g<w.heap.size) (hk:Dr.ok S w) (hv:∀(k:Nat) (a:AV) (x:Value),args[k]?=some a->vals[k]?=some x->VRel S κ (Dm ms) w a x)
  (hms:∀b ent,look ms b=some ent->EntAt S κ (Dm ms) w (κ b) ent) (hinj:∀b b' g c c',Dm ms b->Dm ms b'->κ b=some (g,c)->κ b'=some (g,c')->b=b')
  (hex:∀id,ex≠.exit id) (hwp:∀a,GoodF w S κ (Dm ms) fn.ntmps (fs { t:=argTab 0 args,m:=ms }) a w->c.wp P (PostC w S κ (Dm ms) fn.ntmps ex st) a w)
  (hres:zoI P frz fn st=some r) (hback:zoV st.m ms=some ms') (hpair:(ms'.all (λp=>decide (1000<=p.1))||r.flat 4)=true):Calls P f vals w (Left S κ ms ms' r w):=by
 refine calls_of_wp hf hb ?_
 have hgood:GoodF w S κ (Dm ms) fn.ntmps (fs { t:=argTab 0 args,m:=ms }) { tmps:=vals++Array.replicate (fn.ntmps-vals.size) undef,defers:=[] } w:=by
  refine⟨S,κ,{
   base:=⟨hk,λg hg=>⟨hS g hg,λb c hl hκ=>by
    obtain⟨ent,he⟩:=zaT.1 hl;have:=hms b ent he;rw[hκ]at this
    exact this.notS hg⟩⟩
   defers:=rfl
   size:=by simp;omega
   os:=rfl
   tape:=rfl
   output:=.of
   grow:=zav _
   old:=λ_ _ _=>rfl
   sup:=λ_ h=>h
   snew:=λ_ h=>.inl h
   slt:=hS
   par:=λ_ _=>rfl
   parK:=λ_ _ h=>h
   own:=λb g c' hb' hl hk=>.inr ⟨b,c',hb',hl,hk⟩
   inj:=hinj
   ents:=λb ent he=>hms b ent he
   slots:=λk=>?_ }⟩
  simp only[fs];rw[zyj];simp only[zcT,if_true,Nat.sub_zero]
  cases hk:args[k]? with
  |none=>exact .bot _
  |some a =>
    have hlt:k<vals.size:=by have:=(zal.1 hk).1;omega
    have:(vals++Array.replicate (fn.ntmps-vals.size) undef).getD k undef=vals[k]:=by rw[zcW,zgY,if_pos hlt,zaN hlt];rfl
    rw[this];exact hv k a _ hk (zaN hlt)
 refine wp_mono (hwp _ hgood) ?_
 rintro e a' w' ⟨rfl,S1,κ1,hg⟩
 have hpost:a'.defers=[]/\∃v,(results fn a'.tmps).run P w'=.ok v w'/\Left S κ ms ms' r w (.returned v) w':=by
  refine⟨hg.defers,?_⟩;unfold zoI at hres;obtain⟨hbn,hbs⟩:=ztz hback;have hkeep:∀c,1000<=c->κ1 c=κ c:=λc hc=>hg.par c hc
  have hown:∀b g c,b<1000->Dm ms' b->κ1 b=some (g,c)->Mine w κ (Dm ms) g:=λb g c hb' hd hk=>by obtain⟨e,he⟩:=zaT.1 hd;exact hg.own b g c hb' (by simp[fs,(hbs b e he).2.1]) hk
  have hinj':∀b b' g c c',Dm ms' b->Dm ms' b'->κ1 b=some (g,c)->κ1 b'=some (g,c')->b=b':=λb b' g c c' hd hd' hk hk'=>by obtain⟨e,he⟩:=zaT.1 hd;obtain⟨e',he'⟩:=zaT.1 hd';exact hg.inj b b' g c c' (by simp[fs,(hbs b e he).2.1]) (by simp[fs,(hbs b' e' he').2.1]) hk hk'
  have hpar:∀(S2:aD),(∀g,S1 g->S2 g)->(∀g,S2 g->S1 g\/(ms'.all (λp=>decide (1000<=p.1))=true/\∃b cp,b<1000/\(look st.m b).isSome=true/\κ1 b=some (g,cp)))->∀b ent,look ms' b=some ent->Dm ms b/\EntAt S2 κ1 (Dm ms') w' (κ1 b) ent:=by
   intro S2 h12 h21 b ent hbe;obtain⟨q1,q2,q3⟩:=hbs b ent hbe;have hE:=hg.ents b ent q2;refine⟨q1,ent_tail hE h12 (λg cp hk hs=>?_) (λhbx cs hcs a ha x hax=>?_)⟩
   . rw[hk]at hE;rcases h21 g hs with h|⟨hall,b',cp',hb',hl',hk'⟩
     .exact hE.notS h
     .have:b=b':=hg.inj b b' g cp cp' (by simp[fs,q2]) hl' hk hk';have h2:=zbd.1 hall (b,ent) (zoD hbe);simp only[decide_eq_true_eq]at h2;omega
   . rcases q3 with⟨_,h|h⟩|⟨_,_,h⟩
     .rw[h]at hbx;cases hbx
     . have h3:=zfO (zfO h cs hcs) a ha;simp only[zdS]at h3;rcases h3 with h3|h3
       .exact .c ((zkX 4 h3 hax).mono h12 (λ_ _=>rfl))
       .exact nref_keep (λc hc h1 h2=>hbn c (zlB hc) h1 h2) h3 hax
     .rw[h]at hbx;cases hbx
  have out:∀(a:AV) (x:Value),VRel S1 κ1 (λb=>(look st.m b).isSome=true) w' a x->outOf frz st.m a=some r->(results fn a'.tmps).run P w'=.ok x w'->∃v,(results fn a'.tmps).run P w'=.ok v w'/\Left S κ ms ms' r w (.returned v) w':=by
   intro a x hax ho hrun;refine⟨x,hrun,x,?_⟩
   have same:RRel S1 κ (Dm ms) (Mine w κ (Dm ms)) w' r x->∃S' κ',Ending.returned x=Ending.returned x/\w'.os=w.os/\w'.tape=w.tape/\OutD w w'/\w.heap.size<=w'.heap.size/\(∀g,g<w.heap.size->(∀b c,Dm ms b->κ b≠some (g,c))->w'.heap[g]?=w.heap[g]?)/\(∀g,S g->S' g)/\(∀g,S' g->S g\/Mine w κ (Dm ms) g)/\(∀g,S' g->g<w'.heap.size)/\(∀b,1000<=b->κ' b=κ b)/\(∀b g c,b<1000->Dm ms' b->κ' b=some (g,c)->Mine w κ (Dm ms) g)/\(∀b b' g c c',Dm ms' b->Dm ms' b'->κ' b=some (g,c)->κ' b'=some (g,c')->b=b')/\(∀b ent,look ms' b=some ent->Dm ms b/\EntAt S' κ' (Dm ms') w' (κ' b) ent)/\RRel S' κ (Dm ms) (Mine w κ (Dm ms)) w' r x:=λhr=>⟨S1,κ1,rfl,hg.os,hg.tape,hg.output,hg.grow,hg.old,hg.sup,hg.snew,hg.slt,hkeep,hown,hinj',hpar S1 (λ_ h=>h) (λ_ h=>.inl h),hr⟩
   let S2:Nat->Prop:=λg=>S1 g\/∃b cp,b<1000/\(look st.m b).isSome=true/\κ1 b=some (g,cp)
   have frozen:CRel S2 w' r x->(∀z e es,r≠.new z e es)->(∀z e cs,r≠.newp z e cs)->(∀e es,r≠.newm e es)->∃S' κ',Ending.returned x=Ending.returned x/\w'.os=w.os/\w'.tape=w.tape/\OutD w w'/\w.heap.size<=w'.heap.size/\(∀g,g<w.heap.size->(∀b c,Dm ms b->κ b≠some (g,c))->w'.heap[g]?=w.heap[g]?)/\(∀g,S g->S' g)/\(∀g,S' g->S g\/Mine w κ (Dm ms) g)/\(∀g,S' g->g<w'.heap.size)/\(∀b,1000<=b->κ' b=κ b)/\(∀b g c,b<1000->Dm ms' b->κ' b=some (g,c)->Mine w κ (Dm ms) g)/\(∀b b' g c c',Dm ms' b->Dm ms' b'->κ' b=some (g,c)->κ' b'=some (g,c')->b=b')/\(∀b ent,look ms' b=some ent->Dm ms b/\EntAt S' κ' (Dm ms') w' (κ' b) ent)/\RRel S' κ (Dm ms) (Mine w κ (Dm ms)) w' r x:=by
    intro hr hn1 hn2 hn3;by_cases hall:ms'.all (λp=>decide (1000<=p.1))=true
    case neg =>
     have hfl:r.flat 4=true:=by simp only[zdS]at hpair;exact hpair.resolve_left hall
     refine same ?_;have hr1:CRel S1 w' r x:=zuK 4 hfl hr;unfold RRel;split
     .cases hr
     .cases hr
     .exact absurd rfl (hn1 _ _ _)
     .exact absurd rfl (hn3 _ _)
     .exact absurd rfl (hn2 _ _ _)
     .exact noNewTup hr1
     .exact hr1
    refine⟨S2,κ1,rfl,hg.os,hg.tape,hg.output,hg.grow,hg.old,λg h=>.inl (hg.sup g h),?_,?_,hkeep,hown,hinj',hpar S2 (λ_ h=>.inl h) (λ_ h=>h.imp id (λq=>⟨hall,q⟩)),?_⟩
    . intro g h;rcases h with h|⟨b,cp,hb',hl,hk⟩
      .exact hg.snew g h
      .exact .inr (hg.own b g cp hb' hl hk)
    . intro g h;rcases h with h|⟨b,cp,hb',hl,hk⟩
      .exact hg.slt g h
      .obtain⟨ent,he⟩:=zaT.1 hl;have:=hg.ents b ent he;rw[hk]at this;exact this.lt
    . unfold RRel;split
      .cases hr
      .cases hr
      .exact absurd rfl (hn1 _ _ _)
      .exact absurd rfl (hn3 _ _)
      .exact absurd rfl (hn2 _ _ _)
      .exact noNewTup hr
      .exact hr
   have hLL:∀b ent,(λb=>if b<1000 then look st.m b else none) b=some ent->EntAt S1 κ1 (λb=>(look st.m b).isSome=true) w' (κ1 b) ent:=λb ent hbe=>by
    simp only at hbe;split at hbe
    .exact hg.ents b ent hbe
    .cases hbe
   have snapped:∀a',snap (λb=>if b<1000 then look st.m b else none) 5 a=some a'->CRel S2 w' a' x:=by
    intro a'' hs;refine zrK hLL (λ_ h=>.inl h) 5 hax hs (λb hbm g cp hk=>.inr ⟨b,cp,?_,?_,hk⟩)
    . have:=snap_ids 5 a a'' hs b hbm;split at this
      .assumption
      .cases this
    .exact ids_D hLL 5 a x hax b hbm
   unfold outOf at ho;simp only at ho;split at ho
   . rename_i b z off m;split at ho
     . rename_i hge;split at ho
       case isFalse=>cases ho
       rename_i hc;injection ho with ho;subst ho;refine same ?_;have hD:Dm ms b:=hg.parK b hge hc.2;have hke:=hg.par b hge;show VRel S1 κ (Dm ms) w' (.row b z off m) x
       cases hax with
       |c h=>cases h
       |row0 _ _ hd hk=>exact .row0 b z hD (by rw[<-hke];exact hk)
       |row _ _ _ _ g c off' cap hd hk hn ho hc=>exact .row b z off m g c off' cap hD (by rw[<-hke];exact hk) hn ho hc
     split at ho
     case h_2=>cases ho
     rename_i ent hle;split at ho
     . rename_i hc;obtain⟨_,hz,rfl,hm,hbx,hzp⟩:=hc;injection ho with ho;subst ho
       have hb1:b<1000/\look st.m b=some ent:=by
        split at hle
        .exact⟨by assumption,hle⟩
        .cases hle
       refine same ?_;have hE:=hg.ents b ent hb1.2
       cases hax with
       |c h=>cases h
       |row0 _ _ hd hk=>rw[hk]at hE;exact⟨hzp,.inl ⟨rfl,(hE.1 (.inr (by omega))).2.1⟩⟩
       |row _ _ _ _ g cp off' cap hd hk hnc ho' hcc =>
         rw[hk]at hE;have hcap:=hcc rfl;subst hcap
         have hoff:off'=0:=by
          rcases ho' with h|⟨_,h⟩
          .simpa using h
          .exact absurd rfl h
         subst hoff;refine⟨hzp,.inr ⟨g,cap,hg.own b g cap hb1.1 (by simp[fs,hb1.2]) hk,by rw[hm],?_⟩⟩;obtain⟨z1,cells,q1,q2,q3,q4,q5,q6⟩:=hE.1 (.inr (by omega));subst hz;refine EntAt.of (.inr hzp) ⟨z1,cells,q1,q2,q3,za5 q4 ent.cap_le,q5,λi j cs av hi hj=>?_⟩;obtain⟨u,u1,u2,_,u4⟩:=q6 i j cs av hi hj;exact⟨u,u1,u2,(λhb'=>by cases hb'),λ_=>u4 hbx⟩
     .have hcr:=snapped r ho;refine frozen hcr (λz e es hr=>by rw[hr]at hcr;cases hcr) (λz e cs hr=>by rw[hr]at hcr;cases hcr) (λe es hr=>by rw[hr]at hcr;cases hcr)
   . rename_i b z i o;split at ho
     . rename_i hge;split at ho
       case isFalse=>cases ho
       rename_i hc;injection ho with ho;subst ho;refine same ?_;have hD:Dm ms b:=hg.parK b hge hc;have hke:=hg.par b hge;show VRel S1 κ (Dm ms) w' (.loc b z i o) x
       cases hax with
       |c h=>cases h
       |loc _ _ _ _ g c hd hk=>exact .loc b z i o g c hD (by rw[<-hke];exact hk)
     split at ho
     case h_2=>cases ho
     rename_i ent hle;split at ho
     case isFalse=>cases ho
     rename_i hc;obtain⟨hz,hbx,rfl,rfl⟩:=hc;split at ho
     case h_2=>cases ho
     rename_i cs hes;split at ho
     case isFalse=>cases ho
     rename_i hC;injection ho with ho;subst ho
     have hb1:b<1000/\look st.m b=some ent:=by
      split at hle
      .exact⟨by assumption,hle⟩
      .cases hle
     refine same ?_;have hE:=hg.ents b ent hb1.2;obtain⟨g,cp,hd,hk,rfl⟩:=hax.loc_inv;rw[hk]at hE;refine⟨g,cp,hg.own b g cp hb1.1 hd hk,by simp,?_⟩;obtain⟨z1,cells,q1,q2,q3,q4,q5,q6⟩:=hE.1 (.inl hbx);subst hz;rw[hes]at z1 q3 q6;refine EntAt.of (.inl rfl) ⟨z1,cells,q1,q2,q3,q4,q5,λi j cs' av hi hj=>?_⟩;obtain⟨u,u1,u2,u3,_⟩:=q6 i j cs' av hi hj;refine⟨u,u1,u2,λ_=>.c ?_,λhb'=>by cases hb'⟩
     have:cs'=cs:=by
      cases i with
      |zero=>simpa using hi.symm
      |succ i=>simp at hi
     subst this;exact zkX 4 (zfO hC av (zau hj)) (u3 hbx)
   . rename_i b;split at ho
     case isTrue=>cases ho
     split at ho
     case h_2=>cases ho
     rename_i ent hle;split at ho
     . rename_i hc;obtain⟨_,hz,hbx⟩:=hc;injection ho with ho;subst ho
       have hb1:b<1000/\look st.m b=some ent:=by
        split at hle
        .exact⟨by assumption,hle⟩
        .cases hle
       refine same ?_;have hE:=hg.ents b ent hb1.2;obtain⟨g,cp,hd,hk,rfl⟩:=hax.map_inv;rw[hk]at hE;exact⟨g,cp,hg.own b g cp hb1.1 hd hk,rfl,EntAt.ofMap rfl rfl (hE.2 (zxU hz hbx))⟩
     .have hcr:=snapped r ho;refine frozen hcr (λz e es hr=>by rw[hr]at hcr;cases hcr) (λz e cs hr=>by rw[hr]at hcr;cases hcr) (λe es hr=>by rw[hr]at hcr;cases hcr)
   .have hcr:=snapped r ho;refine frozen hcr (λz e es hr=>by rw[hr]at hcr;cases hcr) (λz e cs hr=>by rw[hr]at hcr;cases hcr) (λe es hr=>by rw[hr]at hcr;cases hcr)
  have first:∀(a:AV) (x:Value),VRel S1 κ1 (λb=>(look st.m b).isSome=true) w' a x->out1 P frz (fn.resultTypes.getD 0 0) st.m a=some r->(results fn a'.tmps).run P w'=.ok x w'->∃v,(results fn a'.tmps).run P w'=.ok v w'/\Left S κ ms ms' r w (.returned v) w':=by
   intro a x hax ho hrun;unfold out1 at ho;split at ho
   . split at ho
     case h_2=>cases ho
     split at ho
     case h_2=>cases ho
     split at ho
     case isFalse=>cases ho
     rename_i hzp;injection ho with ho;subst ho;have:=hax.v_inv;subst this;exact⟨_,hrun,_,S1,κ1,rfl,hg.os,hg.tape,hg.output,hg.grow,hg.old,hg.sup,hg.snew,hg.slt,hkeep,hown,hinj',hpar S1 (λ_ h=>h) (λ_ h=>.inl h),hzp,.inl ⟨rfl,rfl⟩⟩
   .exact out _ x (zuY hax) ho hrun
  have many:∀l:List AV,(∀a2,l≠[a2])->mapO (resVar P st) fn.results.toList=some l->outOf frz st.m (.tup (nrmA P fn.resultTypes.toList l))=some r->∃v,(results fn a'.tmps).run P w'=.ok v w'/\Left S κ ms ms' r w (.returned v) w':=by
   intro l hne hl hres;obtain⟨x,hx,h⟩:=zt0 (P:=P) hg.slots hg.ents hl;rcases h with⟨a2,he,hv2⟩|⟨_,hv2⟩
   .exact absurd he (hne a2)
   .refine out _ x ?_ hres hx;obtain⟨vs,rfl,hl1,hr1⟩:=hv2.tup_inv;exact .tup _ vs (by rw[zlC];exact hl1) (nrmA_rel hr1)
  split at hres
  . rename_i a hl;obtain⟨x,hx,h⟩:=zt0 (P:=P) hg.slots hg.ents hl;rcases h with⟨a2,he,hv2⟩|⟨hne,_⟩
    .injection he with he;subst he;exact first a x hv2 hres hx
    .exact absurd rfl hne
  . rename_i a b hl;split at hres
    case isFalse=>exact many _ (by simp) hl hres
    obtain⟨x,hx,h⟩:=zt0 (P:=P) hg.slots hg.ents hl;rcases h with⟨a2,he,_⟩|⟨_,hv2⟩
    .cases he
    obtain⟨vs,rfl,hl1,hr1⟩:=hv2.tup_inv;have hl2:vs.size=2:=hl1;obtain⟨x0,e0⟩:∃x0,vs[0]?=some x0:=⟨_,zaN (show 0<vs.size by omega)⟩
    obtain⟨x1,e1⟩:∃x1,vs[1]?=some x1:=⟨_,zaN (show 1<vs.size by omega)⟩
    have hvs:vs=#[x0,x1]:=by
     apply Array.ext
     .simpa using hl2
     . intro i h1 h2;have hi:i<2:=by simpa using h2
       match i,hi with
       |0,_=>simpa[zaN h1]using e0
       |1,_=>simpa[zaN h1]using e1
    have ha:=hr1 0 a x0 rfl e0;have hb:=hr1 1 b x1 rfl e1;refine⟨_,hx,_,S1,κ1,rfl,hg.os,hg.tape,hg.output,hg.grow,hg.old,hg.sup,hg.snew,hg.slt,hkeep,hown,hinj',hpar S1 (λ_ h=>h) (λ_ h=>.inl h),?_⟩;unfold outN at hres;split at hres
    . rename_i u;have e2:=hb.v_inv;have e3:=ha.v_inv;subst e2;subst e3;split at hres
      case h_2=>cases hres
      split at hres
      case h_2=>cases hres
      split at hres
      case isFalse=>cases hres
      rename_i hzp;injection hres with hres;subst hres;exact⟨_,hvs▸rfl,hzp,.inl ⟨rfl,rfl⟩⟩
    . rename_i bb z n _ u;have e2:=hb.v_inv;subst e2;split at hres
      case isFalse=>cases hres
      rename_i hb1;split at hres
      case h_2=>cases hres
      rename_i ent hle;split at hres
      case isFalse=>cases hres
      rename_i hc;obtain⟨hz,hm,hbx,hzp⟩:=hc;injection hres with hres;subst hres;have hE:=hg.ents bb ent hle;refine⟨x0,by rw[hvs],hzp,?_⟩
      cases ha with
      |c h=>cases h
      |row0 _ _ hd hk=>rw[hk]at hE;exact .inl ⟨rfl,(hE.1 (.inr (by omega))).2.1⟩
      |row _ _ _ _ g cp off' cap hd hk hnc ho' hcc =>
        rw[hk]at hE;have hcap:=hcc rfl;subst hcap
        have hoff:off'=0:=by
         rcases ho' with h|⟨_,h⟩
         .simpa using h
         .exact absurd rfl h
        subst hoff;refine .inr ⟨g,cap,hg.own bb g cap hb1 (by simp[fs,hle]) hk,by rw[hm],?_⟩;obtain⟨z1,cells,q1,q2,q3,q4,q5,q6⟩:=hE.1 (.inr (by omega));subst hz;refine EntAt.of (.inr hzp) ⟨z1,cells,q1,q2,q3,za5 q4 ent.cap_le,q5,λi j cs av hi hj=>?_⟩;obtain⟨u,u1,u2,_,u4⟩:=q6 i j cs av hi hj;exact⟨u,u1,u2,(λhb'=>by cases hb'),λ_=>u4 hbx⟩
    .cases hres
  .rename_i l hne1 hne2 hl;exact many l hne1 hl hres
  .cases hres
 cases ex with
 |normal=>exact hpost
 |ret=>exact hpost
 |exit id=>exact absurd rfl (hex id)
def zKY:∀n,CallOK P (acall P C A n):=by
 intro n
 induction n with
 |zero=>intro f args ms r ms' h;simp[acall]at h
 |succ n ih =>
   intro f args ms r ms' h;simp only[acall]at h
   cases ho:orcG P C.orc f args ms with
   |some r0=>simp only[ho,zaf]at h;subst h;exact orcG_ok P C.orc f args ms r ms' ho
   |none =>
   simp only[ho]at h
   cases hf:P.funcs[f]? with
   |none=>simp[hf]at h
   |some fn =>
     simp only[hf]at h
     cases hb:fn.body with
     |none=>simp[hb]at h
     |some c =>
       simp only[hb]at h;split at h
       case isFalse=>cases h
       rename_i hcond;obtain⟨hN,hargs,hent⟩:=hcond;refine⟨hent,?_⟩;intro w S κ vals hvl hS hk hv hms hinj
       have fin:∀(ex:Ex) (st:St),(∀id,ex≠.exit id)->aeval P C (A f) fn.ntmps (acall P C A n) (iter n) c { t:=argTab 0 args,m:=ms }=some (ex,st)->zoI P (A f).frz fn st=some r->zoV st.m ms=some ms'->(ms'.all (λp=>decide (1000<=p.1))||r.flat 4)=true->Calls P f vals w (Left S κ ms ms' r w):=by intro ex st hex hev hres hback hpair;exact zwg hf hb hargs hvl hS hk hv hms hinj hex (λa hg=>zCu ih hN c _ ex st hev a w hg) hres hback hpair
       split at h
       .cases h
       . rename_i ex st hne hev;split at h
         . rename_i r' ms1 hr hm;unfold zxV at h;split at h
           case isFalse=>cases h
           rename_i hp;simp only[zG]at h;obtain⟨rfl,rfl⟩:=h;exact fin ex st (λid e=>hne id e) hev hr hm hp
         .cases h
       .cases h
end
end Go.Ab
end
