/- Operations on maps. -/
import Derived.Test.YtikogkgdkdmljaaGreatAb3
import Derived.MapKept
import Derived.WideKeyRuns
set_option linter.unusedSimpArgs false
set_option linter.unusedVariables false
noncomputable section
namespace Go.Ab
open Go.RowKit
def First (P:Program) (t:TypeId) (k:AV) (es:List (List AV)):Option Nat→Prop
 | none=>∀ cs∈es,∃ ka va,cs=[ka,va]∧keyEq P t k ka=some false
 | some j=>(∃ ka va,es[j]?=some [ka,va]∧keyEq P t k ka=some true)∧∀ i < j,∃ ka va,es[i]?=some [ka,va]∧keyEq P t k ka=some false
section
variable {P:Program} {t:TypeId} {k:AV}
theorem First.nil:First P t k [] none:=fun cs h=>by cases h
theorem First.cons {ka va:AV} {es:List (List AV)} {o:Option Nat} (he:keyEq P t k ka=some false) (h:First P t k es o):First P t k ([ka,va] :: es) (o.map (·+1)):=by
 cases o with
 | none =>
   intro cs hcs; rcases za1.1 hcs with rfl | hcs
   · exact ⟨ka,va,rfl,he⟩
   · exact h cs hcs
 | some j =>
   obtain ⟨⟨k1,v1,h1,h2⟩,h3⟩:=h; refine ⟨⟨k1,v1,by simpa using h1,h2⟩,fun i hi=>?_⟩
   cases i with
   | zero=>exact ⟨ka,va,rfl,he⟩
   | succ i=>simpa using h3 i (by simp at hi; omega)
theorem First.head {ka va:AV} {es:List (List AV)} (he:keyEq P t k ka=some true):First P t k ([ka,va] :: es) (some 0):=
 ⟨⟨ka,va,rfl,he⟩,fun i hi=>by omega⟩
theorem zse:∀ {es:List (List AV)} {o:Option AV},mlook P t k es=some o→(o=none∧First P t k es none)∨∃ j ka va,o=some va∧es[j]?=some [ka,va]∧First P t k es (some j)
 | [],o,h=>by simp only [mlook,zat] at h; exact .inl ⟨h.symm,.nil⟩
 | [ka,va] :: r,o,h=>by
   simp only [mlook] at h; split at h
   · rename_i he; simp only [zat] at h; exact .inr ⟨0,ka,va,h.symm,rfl,.head he⟩
   · rename_i he; rcases zse h with ⟨h1,h2⟩ | ⟨j,k1,v1,h1,h2,h3⟩
     · exact .inl ⟨h1,h2.cons he⟩
     · exact .inr ⟨j+1,k1,v1,h1,by simpa using h2,h3.cons he⟩
   · cases h
 | [] :: r,o,h=>by simp [mlook] at h
 | [_] :: r,o,h=>by simp [mlook] at h
 | (_ :: _ :: _ :: _) :: r,o,h=>by simp [mlook] at h
theorem zys {v:AV}:∀ {es es':List (List AV)},mset P t k v es=some es'→(First P t k es none∧es'=es++[[k,v]])∨∃ j,First P t k es (some j)∧es'=es.set j [k,v]
 | [],es',h=>by simp only [mset,zat] at h; exact .inl ⟨.nil,h.symm⟩
 | [ka,va] :: r,es',h=>by
   simp only [mset] at h; split at h
   · rename_i he; simp only [zat] at h; exact .inr ⟨0,.head he,h.symm⟩
   · rename_i he; split at h
     · rename_i l hl; simp only [zat] at h; rcases zys hl with ⟨h1,h2⟩ | ⟨j,h1,h2⟩
       · exact .inl ⟨h1.cons he,by rw [← h,h2]; rfl⟩
       · exact .inr ⟨j+1,h1.cons he,by rw [← h,h2]; rfl⟩
     · cases h
   · cases h
 | [] :: r,o,h=>by simp [mset] at h
 | [_] :: r,o,h=>by simp [mset] at h
 | (_ :: _ :: _ :: _) :: r,o,h=>by simp [mset] at h
theorem zyo:∀ {es es':List (List AV)},mdel P t k es=some es'→(First P t k es none∧es'=es)∨∃ j,First P t k es (some j)∧es'=es.eraseIdx j
 | [],es',h=>by simp only [mdel,zat] at h; exact .inl ⟨.nil,h.symm⟩
 | [ka,va] :: r,es',h=>by
   simp only [mdel] at h; split at h
   · rename_i he; simp only [zat] at h; exact .inr ⟨0,.head he,by rw [← h]; rfl⟩
   · rename_i he; split at h
     · rename_i l hl; simp only [zat] at h; rcases zyo hl with ⟨h1,h2⟩ | ⟨j,h1,h2⟩
       · exact .inl ⟨h1.cons he,by rw [← h,h2]⟩
       · exact .inr ⟨j+1,h1.cons he,by rw [← h,h2]; rfl⟩
     · cases h
   · cases h
 | [] :: r,o,h=>by simp [mdel] at h
 | [_] :: r,o,h=>by simp [mdel] at h
 | (_ :: _ :: _ :: _) :: r,o,h=>by simp [mdel] at h
end
theorem bitsB_same {x y:Value} (n:Nat) (h:bitsB x y=some true):Instr.sameBits n x y=true:=by
 unfold bitsB at h; split at h
 · split at h
   · rename_i hk; subst hk; simp only [zat] at h; cases n <;> simpa [Instr.sameBits] using h
   · cases h
 · simp only [zat] at h; cases n <;> simpa [Instr.sameBits] using h
 · simp only [zat] at h; cases n <;> simpa [Instr.sameBits] using h
 · cases h
theorem zwM (n:Nat):∀ {xs ys:List Value},bitsL xs ys=some true→xs.length=ys.length∧(xs.zip ys).all (fun (x,y)=>Instr.sameBits n x y)=true
 | [],[],_=>⟨rfl,rfl⟩
 | x :: r,y :: s,h=>by
   simp only [bitsL] at h; obtain ⟨a,b,ha,hb,hab⟩:=zoj h; have h1:a=true:=by cases a <;> simp at hab ⊢
   have h2:b=true:=by cases b <;> simp [h1] at hab ⊢
   subst h1; subst h2; obtain ⟨i1,i2⟩:=zwM n hb; refine ⟨by simp [i1],?_⟩; rw [List.zip_cons_cons,List.all_cons]; rw [zbK]; exact ⟨bitsB_same n ha,i2⟩
 | [],_ :: _,h=>by simp [bitsL] at h
 | _ :: _,[],h=>by simp [bitsL] at h
theorem zzZ {td:TypeDesc} {x y:Value} (n:Nat) (h:Instr.sameNow td x y=some true):Instr.sameBits n x y=true:=by
 unfold Instr.sameNow at h; split at h
 · split at h
   · rename_i hk; subst hk; simp only [zat] at h; cases n <;> simpa [Instr.sameBits] using h
   · cases h
 · simp only [zat] at h; cases n <;> simpa [Instr.sameBits] using h
 · simp only [zat] at h; cases n <;> simpa [Instr.sameBits] using h
 · cases h
section
variable {P:Program} {S:Nat→Prop} {κ:Kap} {D:Nat→Prop} {w:World}
theorem scalT_agg {t:TypeId} (h:scalT P t=true):isAggB P t=some false:=by
 unfold scalT at h; split at h
 · rename_i hu; exact zfZ hu
 · rename_i hu; exact zfZ hu
 · rename_i hu; exact zfZ hu
 · cases h
theorem znU {t:TypeId} (h:scalT P t=true) (em:Bool) (n:Nat) (x:Value) (w:World):(Instr.checkKey em (n+1) t x).run P w=.ok () w:=by
 unfold scalT at h; split at h
 · rename_i hu; simp [Instr.checkKey,run_underlying hu]
 · rename_i hu; simp [Instr.checkKey,run_underlying hu]
 · rename_i hu; simp [Instr.checkKey,run_underlying hu]
 · cases h
theorem zyA {t:TypeId} (h:scalT P t=true) {arr:Array Value} {off:Nat} (ho:off < arr.size) (w:World):(part t arr off).run P w=.ok arr[off] w:=by simp only [part,Sem.run_bind,zjV (scalT_agg h),Result.andThen_ok,zcn,if_false,zcy ho,Sem.run_pure]
theorem keyAV_val {t:TypeId} {k:AV} {x:Value} (h:keyAV P t k=true) (hr:VRel S κ D w k x):CRel S w k x:=by
 unfold keyAV at h; split at h
 · rw [hr.v_inv]; exact .v _
 · rename_i cs; split at h
   · rename_i xs fs hm hu; obtain ⟨vs,rfl,hl,h1,hp⟩:=hr.agg_inv; refine .agg cs vs hl h1 (fun j c x hc hx=>?_); obtain ⟨_,h2⟩:=zhV hm; obtain ⟨b,_,hb⟩:=h2 j c hc; have:=zst hb (hp j c x hc hx); cases c <;> simp [AV.scal] at hb; subst hb; rw [this]; exact .v _
   · rename_i xs n e hm hu; obtain ⟨vs,rfl,hl,h1,hp⟩:=hr.agg_inv; refine .agg cs vs hl h1 (fun j c x hc hx=>?_); obtain ⟨_,h2⟩:=zhV hm; obtain ⟨b,_,hb⟩:=h2 j c hc; have:=zst hb (hp j c x hc hx); cases c <;> simp [AV.scal] at hb; subst hb; rw [this]; exact .v _
   · cases h
 · cases h
theorem zqr {t:TypeId} {k:AV} {x:Value} (h:keyAV P t k=true) (hr:VRel S κ D w k x) (em:Bool) (w':World):(Instr.checkKey em 10000 t x).run P w'=.ok () w':=by
 unfold keyAV at h; split at h
 · simp only [zbK] at h; exact znU h.1 em 9999 x w'
 · rename_i cs; split at h
   · rename_i xs fs hm hu; simp only [zbK,zbQ,decide_eq_true_eq] at h; have ex:=zi1 hm hr; subst ex
     have key:∀ (l:List Field),(∀ f∈l,scalT P f.type=true∧f.offset < xs.length)→∀ w':World,(forIn (m:=Sem) l PUnit.unit (fun f _=>do
        if f.name ≠ "_" then Instr.checkKey em 9999 f.type (← part f.type xs.toArray f.offset)
        pure (ForInStep.yield PUnit.unit))).run P w'=.ok PUnit.unit w':=by
      intro l
      induction l with
      | nil=>intro _ w'; simp
      | cons f l ih =>
        intro hf w'; obtain ⟨f1,f2⟩:=hf f (by simp); have ihl:=ih (fun g hg=>hf g (by simp [hg])) w'; rw [List.forIn_cons]; by_cases hn:f.name = "_"
        · simp only [hn,ne_eq,not_true_eq_false,if_false,Sem.run_bind,Sem.run_pure,Result.andThen_ok]; exact ihl
        · simp only [hn,ne_eq,not_false_eq_true,if_true,Sem.run_bind,zyA f1 (arr:=xs.toArray) (by simpa using f2) w',Result.andThen_ok,znU f1 em 9998,Sem.run_pure]; exact ihl
     have:=key fs.toList h.2 w'; rw [show (10000:Nat)=9999+1 from rfl,Instr.checkKey]; simp only [Sem.run_bind,run_underlying hu,Result.andThen_ok]; simp at this ⊢; rw [this]; simp
   · rename_i xs n e hm hu; simp only [zbK,decide_eq_true_eq,beq_iff_eq] at h; obtain ⟨h1,h2,h3,h4⟩:=h; have ex:=zi1 hm hr; subst ex
     have key:∀ (l:List Nat),(∀ i∈l,i < xs.length)→∀ w':World,(forIn (m:=Sem) l PUnit.unit (fun i _=>do
        Instr.checkKey em 9999 e (← part e xs.toArray (i*(← sizeOf e)))
        pure (ForInStep.yield PUnit.unit))).run P w'=.ok PUnit.unit w':=by
      intro l
      induction l with
      | nil=>intro _ w'; simp
      | cons i l ih=>intro hf w'; have f2:=hf i (by simp); have ihl:=ih (fun g hg=>hf g (by simp [hg])) w'; rw [List.forIn_cons]; simp only [Sem.run_bind,zcb h3,Result.andThen_ok,Nat.mul_one,zyA h2 (arr:=xs.toArray) (by simpa using f2) w',znU h2 em 9998,Sem.run_pure]; exact ihl
     have:=key (List.range' 0 n) (fun i hi=>by simp [List.mem_range'] at hi; omega) w'; rw [show (10000:Nat)=9999+1 from rfl,Instr.checkKey]; simp only [Sem.run_bind,run_underlying hu,Result.andThen_ok]; simp only [Std.Legacy.Range.forIn_eq_forIn_range',Std.Legacy.Range.size,Nat.sub_zero,Nat.add_one_sub_one,Nat.div_one]; simp at this ⊢; rw [this]; simp
   · cases h
 · cases h
theorem zm1 {t:TypeId} {k:AV} {x:Value} {es:List (List AV)} {en:List MapEntry} {o:Option Nat} (hF:First P t k es o) (hr:VRel S κ D w k x) (hlen:en.length=es.length)
  (hk:∀ (i:Nat) (ka va:AV) (e:MapEntry),es[i]?=some [ka,va]→en[i]?=some e→CRel S w ka e.key) (hkey:keyAV P t k=true) (w':World):∃ q:Option (Nat×Value),(Instr.findKey t x en).run P w'=.ok q w'∧(match o with
   | none=>q=none
   | some j=>∃ e,en[j]?=some e∧q=some (j,e.val)∧Instr.sameBits 10000 e.key x=true):=by
 unfold keyAV at hkey; split at hkey
 · rename_i y; have hx:=hr.v_inv; subst hx; simp only [zbK] at hkey
   obtain ⟨td,hu⟩:∃ td,P.underlying t=some td:=by
    have:=hkey.1; unfold scalT at this
    cases hq:P.underlying t with
    | none=>simp [hq] at this
    | some td=>exact ⟨td,rfl⟩
   have hne:∀ ka:AV,∀ r,keyEq P t (.v x) ka=some r→∃ z,ka=.v z∧Instr.sameNow td x z=some r:=by intro ka r h; cases ka <;> simp [keyEq,hu] at h; exact ⟨_,rfl,h⟩
   have sym:∀ {td:TypeDesc} {a b:Value},Instr.sameNow td a b=some true→Instr.sameBits 10000 b a=true:=by
    intro td a b h; refine zzZ 10000 (td:=td) ?_; unfold Instr.sameNow at h ⊢; split at h
    · split at h
      · rename_i hk; subst hk; simp only [zat,beq_iff_eq] at h; subst h; simp
      · cases h
    · simp only [zat] at h; simp [MapKept.bytes_beq] at h ⊢; rw [h]
    · simp only [zat,beq_iff_eq] at h; subst h; simp
    · cases h
   have main:∀ (es:List (List AV)) (en:List MapEntry) (o:Option Nat) (s:Nat),First P t (.v x) es o→en.length=es.length→(∀ (i:Nat) (ka va:AV) (e:MapEntry),es[i]?=some [ka,va]→en[i]?=some e→CRel S w ka e.key)→∃ q,Instr.findNow td x en s=some q∧(match o with
      | none=>q=none
      | some j=>∃ e,en[j]?=some e∧q=some (s+j,e.val)∧Instr.sameBits 10000 e.key x=true):=by
    intro es
    induction es with
    | nil =>
      intro en o s hF hl _; have:en=[]:=List.length_eq_zero_iff.1 (by simpa using hl); subst this
      cases o with
      | none=>exact ⟨none,rfl,rfl⟩
      | some j=>obtain ⟨⟨ka,va,h,_⟩,_⟩:=hF; simp at h
    | cons cs es ih =>
      intro en o s hF hl hk
      cases en with
      | nil=>simp at hl
      | cons e en =>
        have hk':∀ (i:Nat) (ka va:AV) (e:MapEntry),es[i]?=some [ka,va]→en[i]?=some e→CRel S w ka e.key:=fun i ka va e h1 h2=>hk (i+1) ka va e (by simpa using h1) (by simpa using h2)
        cases o with
        | none=>obtain ⟨ka,va,rfl,he⟩:=hF cs (by simp); obtain ⟨z,rfl,hz⟩:=hne ka false he; have hc:=hk 0 _ va e rfl rfl; cases hc; obtain ⟨q,h1,h2⟩:=ih en none (s+1) (fun c hc=>hF c (by simp [hc])) (by simpa using hl) hk'; exact ⟨q,by simp only [Instr.findNow,hz]; exact h1,h2⟩
        | some j =>
          cases j with
          | zero=>obtain ⟨⟨ka,va,h1,he⟩,_⟩:=hF; simp only [ze5,zat] at h1; subst h1; obtain ⟨z,rfl,hz⟩:=hne ka true he; have hc:=hk 0 _ va e rfl rfl; cases hc; exact ⟨some (s,e.val),by simp only [Instr.findNow,hz],e,rfl,rfl,sym hz⟩
          | succ j=>obtain ⟨⟨ka,va,h1,he⟩,h3⟩:=hF; obtain ⟨k0,v0,g1,g2⟩:=h3 0 (by omega); simp only [ze5,zat] at g1; subst g1; obtain ⟨z,rfl,hz⟩:=hne k0 false g2; have hc:=hk 0 _ v0 e rfl rfl; cases hc; obtain ⟨q,h1',h2'⟩:=ih en (some j) (s+1) ⟨⟨ka,va,by simpa using h1,he⟩,fun i hi=>by simpa using h3 (i+1) (by omega)⟩ (by simpa using hl) hk'; refine ⟨q,by simp only [Instr.findNow,hz]; exact h1',?_⟩; obtain ⟨e',q1,q2,q3⟩:=h2'; exact ⟨e',by simpa using q1,by rw [q2]; congr 2; omega,q3⟩
   obtain ⟨q,h1,h2⟩:=main es en o 0 hF hlen hk; refine ⟨q,MapKept.run_findKey hu h1,?_⟩
   cases o with
   | none=>exact h2
   | some j=>obtain ⟨e,q1,q2,q3⟩:=h2; exact ⟨e,q1,by rw [q2,zb5],q3⟩
 · rename_i cs
   have hwide:(match P.underlying t with | some (.array _ _) | some (.struct _)=>true | _=>false)=true∧∃ xs,mapO AV.scal cs=some xs:=by
    split at hkey
    · rename_i xs fs hm hu; rw [hu]; exact ⟨rfl,xs,hm⟩
    · rename_i xs n e hm hu; rw [hu]; exact ⟨rfl,xs,hm⟩
    · cases hkey
   obtain ⟨hwide,xs,hm⟩:=hwide; have ex:=zi1 hm hr; subst ex
   have hne:∀ ka:AV,∀ r,keyEq P t (.agg cs) ka=some r→∃ ds ys,ka=.agg ds∧mapO AV.scal ds=some ys∧isAggB P t=some true∧eqV P 20 t xs ys=some r∧bitsL xs ys=some r:=by
    intro ka r h; cases ka <;> simp only [keyEq,hm] at h <;> try (cases h; done)
    rename_i ds
    cases hd:mapO AV.scal ds with
    | none=>simp [hd] at h
    | some ys =>
      simp only [hd] at h; split at h
      · rename_i ha; refine ⟨ds,ys,rfl,hd,ha,?_⟩; unfold agree at h; split at h
        · rename_i a b h1 h2; split at h
          · rename_i hab; simp only [zat] at h; subst h; subst hab; exact ⟨h1,h2⟩
          · cases h
        · cases h
      · cases h
   have run1:∀ (ka:AV) (r:Bool) (y:Value) (w':World),keyEq P t (.agg cs) ka=some r→CRel S w ka y→(Op.equal t (.agg xs.toArray) y).run P w'=.ok r w'∧(r=true→Instr.sameBits 10000 y (.agg xs.toArray)=true):=by
    intro ka r y w' he hc; obtain ⟨ds,ys,rfl,hd,ha,h1,h2⟩:=hne ka r he; have ey:=zi1 (κ:=κ) (D:=D) hd (.c hc); subst ey; refine ⟨?_,fun hr=>?_⟩
    · have:=ztK (P:=P) 20 t xs ys r h1 9980 _ _ w' (.inl ⟨ha,rfl⟩) (.inl ⟨ha,rfl⟩); rw [show (9980+20:Nat)=Op.maxDepth from rfl] at this; exact this
    · subst hr
      have hsym:bitsL ys xs=some true:=by
       clear h1 hd ha hm he hr hc hkey hF hk hlen hne
       induction xs generalizing ys with
       | nil=>cases ys with
         | nil=>rfl
         | cons _ _=>simp [bitsL] at h2
       | cons a xs ih=>cases ys with
         | nil=>simp [bitsL] at h2
         | cons b ys =>
           simp only [bitsL] at h2 ⊢; obtain ⟨p,q,hp,hq,hpq⟩:=zoj h2; have h1:p=true:=by cases p <;> simp at hpq ⊢
           have h2':q=true:=by cases q <;> simp [h1] at hpq ⊢
           subst h1; subst h2'; rw [ih ys hq]
           have:bitsB b a=some true:=by
            unfold bitsB at hp ⊢; split at hp
            · split at hp
              · rename_i hk; subst hk; simp only [zat,beq_iff_eq] at hp; subst hp; simp
              · cases hp
            · simp only [zat] at hp; simp [MapKept.bytes_beq] at hp ⊢; rw [hp]
            · simp only [zat,beq_iff_eq] at hp; subst hp; simp
            · cases hp
           rw [this]; rfl
      obtain ⟨e1,e2⟩:=zwM 9999 hsym; show Instr.sameBits (9999+1) _ _=true; simp only [Instr.sameBits,zbK]; exact ⟨by simpa using e1,by simpa using e2⟩
   have main:∀ (es:List (List AV)) (en:List MapEntry) (o:Option Nat) (s:Nat),First P t (.agg cs) es o→en.length=es.length→(∀ (i:Nat) (ka va:AV) (e:MapEntry),es[i]?=some [ka,va]→en[i]?=some e→CRel S w ka e.key)→∃ q,(Instr.findAsking t (.agg xs.toArray) en s).run P w'=.ok q w'∧(match o with
      | none=>q=none
      | some j=>∃ e,en[j]?=some e∧q=some (s+j,e.val)∧Instr.sameBits 10000 e.key (.agg xs.toArray)=true):=by
    intro es
    induction es with
    | nil =>
      intro en o s hF hl _; have:en=[]:=List.length_eq_zero_iff.1 (by simpa using hl); subst this
      cases o with
      | none=>exact ⟨none,by simp [Instr.findAsking],rfl⟩
      | some j=>obtain ⟨⟨ka,va,h,_⟩,_⟩:=hF; simp at h
    | cons c0 es ih =>
      intro en o s hF hl hk
      cases en with
      | nil=>simp at hl
      | cons e en =>
        have hk':∀ (i:Nat) (ka va:AV) (e:MapEntry),es[i]?=some [ka,va]→en[i]?=some e→CRel S w ka e.key:=fun i ka va e h1 h2=>hk (i+1) ka va e (by simpa using h1) (by simpa using h2)
        cases o with
        | none=>obtain ⟨ka,va,rfl,he⟩:=hF c0 (by simp); obtain ⟨r1,_⟩:=run1 ka false e.key w' he (hk 0 _ va e rfl rfl); obtain ⟨q,h1,h2⟩:=ih en none (s+1) (fun c hc=>hF c (by simp [hc])) (by simpa using hl) hk'; exact ⟨q,by simp only [Instr.findAsking,Sem.run_bind,r1,Result.andThen_ok,zcn,if_false]; exact h1,h2⟩
        | some j =>
          cases j with
          | zero=>obtain ⟨⟨ka,va,h1,he⟩,_⟩:=hF; simp only [ze5,zat] at h1; subst h1; obtain ⟨r1,r2⟩:=run1 ka true e.key w' he (hk 0 _ va e rfl rfl); exact ⟨some (s,e.val),by simp only [Instr.findAsking,Sem.run_bind,r1,Result.andThen_ok,if_true,Sem.run_pure],e,rfl,rfl,r2 rfl⟩
          | succ j=>obtain ⟨⟨ka,va,h1,he⟩,h3⟩:=hF; obtain ⟨k0,v0,g1,g2⟩:=h3 0 (by omega); simp only [ze5,zat] at g1; subst g1; obtain ⟨r1,_⟩:=run1 k0 false e.key w' g2 (hk 0 _ v0 e rfl rfl); obtain ⟨q,h1',h2'⟩:=ih en (some j) (s+1) ⟨⟨ka,va,by simpa using h1,he⟩,fun i hi=>by simpa using h3 (i+1) (by omega)⟩ (by simpa using hl) hk'; refine ⟨q,by simp only [Instr.findAsking,Sem.run_bind,r1,Result.andThen_ok,zcn,if_false]; exact h1',?_⟩; obtain ⟨e',q1,q2,q3⟩:=h2'; exact ⟨e',by simpa using q1,by rw [q2]; congr 2; omega,q3⟩
   obtain ⟨q,h1,h2⟩:=main es en o 0 hF hlen hk; refine ⟨q,?_,?_⟩
   · rw [run_findKey_eq w' hwide]; exact h1
   cases o with
   | none=>exact h2
   | some j=>obtain ⟨e,q1,q2,q3⟩:=h2; exact ⟨e,q1,by rw [q2,zb5],q3⟩
 · cases hkey
theorem zAU {t:TypeId} {a:AV} (h:zeroA P t=some a) (w:World):∃ z,(zeroValue t).run P w=.ok z w∧CRel S w a z:=by
 unfold zeroA at h
 cases hi:P.info? t with
 | none=>simp [hi] at h
 | some i =>
   cases hz:i.zero with
   | none=>simp [hi,hz] at h
   | some z =>
     simp only [hi,zaY,hz] at h; refine ⟨z,zfL hi hz,?_⟩
     have nrmC:∀ {a:AV} {x:Value},CRel S w a x→CRel S w (nrm P t a) x:=by
      intro a x hr; unfold nrm; split
      · rename_i cs
        cases hr with
        | agg _ vs hl h1 hp =>
          refine .agg _ vs (by rw [zhk]; exact hl) h1 (fun j c x hj hx=>?_); obtain ⟨a,ha,hc⟩:=zm5 P _ _ j c hj; rcases hc with rfl | ⟨t',rfl⟩
          · exact hp j _ x ha hx
          · exact znJ (hp j _ x ha hx)
      · exact znJ hr
     split at h
     · rename_i cs heq; simp only [zat] at heq; subst heq; split at h
       · rename_i h1; simp only [zat] at h; subst h; obtain ⟨c1,c2,c3⟩:=ziw (z:=.agg cs) (S:=S) (w:=w) h1; exact nrmC (.agg _ _ c1 c2 c3)
       · cases h
     · rename_i x hne heq; simp only [zat] at heq; subst heq; split at h
       · simp only [zat] at h; subst h; exact nrmC (.v _)
       · cases h
     · rename_i heq; cases heq
theorem zyq {L:Nat→Option Ent} {m:AV} {x:Value} {es:List (List AV)} (h:mesOf L m=some es) (hx:VRel S κ D w m x) (hL:∀ b ent,L b=some ent→EntAt S κ D w (κ b) ent):(x=.map none∧es=[])∨∃ g en clock,x=.map (some g)∧w.heap[g]?=some (.map en clock)∧en.size=es.length∧(∀ cs∈es,∃ k v,cs=[k,v])∧∀ (i:Nat) (k v:AV) (e:MapEntry),es[i]?=some [k,v]→en[i]?=some e→CRel S w k e.key∧CRel S w v e.val:=by
 unfold mesOf at h; split at h
 · simp only [zat] at h; exact .inl ⟨hx.v_inv,h.symm⟩
 · simp only [zat] at h; subst h; have:=hx.mp_inv
   cases this with
   | mp _ g en clock hS hg hl hb hi h2 hk hv=>exact .inr ⟨g,en,clock,rfl,hg,hl,h2,fun i k v e h1 h2=>⟨hk i k v e h1 h2,hv i k v e h1 h2⟩⟩
 · rename_i b; split at h
   case h_2=>cases h
   rename_i ent hl; split at h
   case isFalse=>cases h
   rename_i hz; simp only [zat] at h; subst h; obtain ⟨g,c,hd,hk,rfl⟩:=hx.map_inv; obtain ⟨g',c',en,clock,hk',hn,hg,hlen,h1,h2,h3,h4⟩:=(hL b ent hl).2 (zri hz.1 hz.2); rw [hk] at hk'; simp only [zat,zaG] at hk'; obtain ⟨rfl,rfl⟩:=hk'; exact .inr ⟨g,en,clock,rfl,hg,hlen,h3,h4⟩
 · cases h
theorem mres_rel {ok b:Bool} {a:AV} {x:Value} (h:CRel S w a x):VRel S κ D w (mres ok a b) (if ok then .tuple #[x,.bool b] else x):=by
 unfold mres
 cases ok with
 | false=>exact .c h
 | true =>
   refine .c (.tup _ _ rfl (fun j c y hj hy=>?_))
   match j with
   | 0=>simp at hj hy; subst hj; subst hy; exact h
   | 1=>simp at hj hy; subst hj; subst hy; exact .v _
   | j+2=>simp at hj
theorem zze {L:Nat→Option Ent} {t:TypeId} {m k:AV} {ok:Bool} {r:Res} {vm vk:Value} (h:aMLook P L t m k ok=some r) (hm:VRel S κ D w m vm) (hk:VRel S κ D w k vk)
  (hL:∀ b ent,L b=some ent→EntAt S κ D w (κ b) ent):∃ y,(Instr.lookup t vm vk ok).run P w=.ok y w∧VRel S κ D w r.val y∧r.set=[]∧r.kill=none∧r.frz=[]∧r.re=[]:=by
 unfold aMLook at h; split at h
 case h_2=>cases h
 rename_i kt et hu; split at h
 case h_2=>cases h
 rename_i es z hes hz; split at h
 case isFalse=>cases h
 rename_i hkey; obtain ⟨zv,hz1,hz2⟩:=zAU (S:=S) hz w
 obtain ⟨en,hen,hrel⟩:∃ en:Array MapEntry,(vm=.map none∧en=#[]∨∃ g clock,vm=.map (some g)∧w.heap[g]?=some (.map en clock))∧en.size=es.length∧∀ (i:Nat) (k v:AV) (e:MapEntry),es[i]?=some [k,v]→en[i]?=some e→CRel S w k e.key∧CRel S w v e.val:=by
  rcases zyq hes hm hL with ⟨rfl,rfl⟩ | ⟨g,en,clock,rfl,hg,hl,_,h4⟩
  · exact ⟨#[],.inl ⟨rfl,rfl⟩,rfl,fun i k v e h1=>by simp at h1⟩
  · exact ⟨en,.inr ⟨g,clock,rfl,hg⟩,hl,h4⟩
 have hlook:∀ q,(Instr.findKey kt vk en.toList).run P w=.ok q w→(Instr.lookup t vm vk ok).run P w=.ok (match q with
   | some (_,v)=>if ok then .tuple #[v,.bool true] else v
   | none=>if ok then .tuple #[zv,.bool false] else zv) w:=by
  intro q hq; have hc:=zqr hkey hk en.isEmpty w; rcases hen with ⟨rfl,rfl⟩ | ⟨g,clock,rfl,hg⟩
  · simp only [Instr.lookup,Sem.run_bind,run_underlying hu,Result.andThen_ok,Sem.run_pure,hc,hq]
    cases q with
    | none=>simp [hz1]
    | some p=>simp
  · simp only [Instr.lookup,Sem.run_bind,run_underlying hu,Result.andThen_ok,MapKept.run_getObj_map hg,Sem.run_pure,hc,hq]
    cases q with
    | none=>simp [hz1]
    | some p=>simp
 split at h
 · rename_i a hml; simp only [zat] at h; subst h; rcases zse hml with ⟨h1,_⟩ | ⟨j,ka,va,h1,h2,h3⟩
   · cases h1
   · simp only [zat] at h1; subst h1; obtain ⟨q,q1,e,q2,q3,_⟩:=zm1 h3 hk (zf4.trans hrel.1) (fun i ka va e h1 h2=>(hrel.2 i ka va e h1 (by simpa using h2)).1) hkey w; subst q3; exact ⟨_,hlook _ q1,mres_rel (hrel.2 j ka a e h2 (by simpa using q2)).2,rfl,rfl,rfl,rfl⟩
 · rename_i hml; simp only [zat] at h; subst h; rcases zse hml with ⟨_,h2⟩ | ⟨j,ka,va,h1,_,_⟩
   · obtain ⟨q,q1,q2⟩:=zm1 h2 hk (zf4.trans hrel.1) (fun i ka va e h1 h2=>(hrel.2 i ka va e h1 (by simpa using h2)).1) hkey w; simp only at q2; subst q2; exact ⟨_,hlook _ q1,mres_rel hz2,rfl,rfl,rfl,rfl⟩
   · cases h1
 · cases h
theorem zAa {L:Nat→Option Ent} {t ty:TypeId} {m:AV} {r:Res} {vm:Value} {k e:TypeId} (hu:P.underlying t=some (.map k e)) (h:aMLen L m=some r) (hm:VRel S κ D w m vm)
  (hL:∀ b ent,L b=some ent→EntAt S κ D w (κ b) ent):∃ y,(Builtin.len_ #[t] ty #[vm]).run P w=.ok y w∧VRel S κ D w r.val y∧r.set=[]∧r.kill=none∧r.frz=[]∧r.re=[]:=by
 unfold aMLen at h; split at h
 case h_2=>cases h
 rename_i es hes; simp only [zat] at h; subst h; rcases zyq hes hm hL with ⟨rfl,rfl⟩ | ⟨g,en,clock,rfl,hg,hl,_,_⟩
 · exact ⟨.int .i64 0,by simp [Builtin.len_,run_underlying hu,goInt],.c (.v _),rfl,rfl,rfl,rfl⟩
 · exact ⟨.int .i64 es.length,by simp [Builtin.len_,run_underlying hu,goInt,MapKept.run_getObj_map hg,hl],.c (.v _),rfl,rfl,rfl,rfl⟩
theorem zzg {t:TypeId} {d:Nat} {r:Res} (hS:∀ g,S g→g < w.heap.size) (hd:¬ D d) (h:aMkMap P d t=some r):∃ y w' κ',(Instr.makeMap t none).run P w=.ok y w'∧EffAt S κ D w S κ' r y w'∧r.frz=[]:=by
 unfold aMkMap at h; split at h
 case h_2=>cases h
 simp only [zat] at h; subst h; have hold:∀ g,g < w.heap.size→(w.alloc (.map #[] 0)).heap[g]?=w.heap[g]?:=fun g hg=>Below.heap_alloc w _ g hg
 refine ⟨.map (some w.heap.size),w.alloc (.map #[] 0),fun b=>if b=d then some (w.heap.size,0) else κ b,?_,?_,rfl⟩
 · simp [Instr.makeMap]
 · exact {
    os:=rfl
    tape:=rfl
    output:=.of
    size:=by simp
    blk:=fun g hg _=>hold g hg
    sup:=fun _ h=>h
    snew:=fun _ h=>.inl h
    slt:=fun g hg=>by have:=hS g hg; simp; omega
    sfrz:=fun b hb=>by cases hb
    kold:=fun b hb _=>if_neg (fun e=>hd (by subst e; exact hb))
    kout:=fun b hb=>if_neg (fun e=>hb (by simp [ids,e]))
    knew:=fun b _ hb g c' h=>by simp [ids] at hb; subst hb; simp at h; omega
    one:=fun b b' _ _ h1 h2 _ _ _ _ _=>by simp [ids] at h1 h2; rw [h1,h2]
    res:=fun b hb=>by cases hb
    ents:=fun b e hb=>by simp at hb; obtain ⟨rfl,rfl⟩:=hb; refine EntAt.ofMap rfl rfl ⟨w.heap.size,0,#[],0,by simp,fun h=>by have:=hS _ h; omega,heap_alloc_new w _,rfl,by simp,by simp,by simp,by simp⟩
    val:=.map d w.heap.size 0 (.inr (by simp [ids])) (by simp) }
theorem EffAt.mapSet {b g c:Nat} {ent:Ent} {es:List (List AV)} {cur:Obj} {en:Array MapEntry} {clock:Nat} {fz:List Nat} {val:AV} {y:Value} (hS:∀ g,S g→g < w.heap.size) (hd:D b) (hκ:κ b=some (g,c))
  (h0:ent.z=0) (hbx:ent.box=false) (hg:w.heap[g]?=some cur) (hnS:¬ S g) (hfz:∀ b'∈fz,D b'∧b'≠b) (hfl:∀ b'∈fz,∀ g' c',κ b'=some (g',c')→g' < w.heap.size)
  (hinj:∀ b b' g c c',D b→D b'→κ b=some (g,c)→κ b'=some (g,c')→b=b')
  (hlen:en.size=es.length) (h1:∀ (i:Nat) (e:MapEntry),en[i]?=some e→e.born < clock) (h2:∀ (i j:Nat) (e f:MapEntry),i < j→en[i]?=some e→en[j]?=some f→e.born < f.born) (h3:∀ cs∈es,∃ k v,cs=[k,v])
  (h4:∀ (i:Nat) (k v:AV) (e:MapEntry),es[i]?=some [k,v]→en[i]?=some e→CRel (fun g'=>S g'∨∃ b' c',b'∈fz∧κ b'=some (g',c')) w k e.key∧CRel (fun g'=>S g'∨∃ b' c',b'∈fz∧κ b'=some (g',c')) w v e.val)
  (hv:∀ (S':Nat→Prop) (κ':Kap) (D':Nat→Prop) (w':World),VRel S' κ' D' w' val y):EffAt S κ D w (fun g'=>S g'∨∃ b' c',b'∈fz∧κ b'=some (g',c')) κ { val:=val,set:=[(b,{ ent with es:=es })],frz:=fz } y { w with heap:=w.heap.setIfInBounds g (.map en clock) }:=by
 have hset:=MapKept.heap_set (w:=w) (o':=.map en clock) hg
 have hne:∀ g',(S g'∨∃ b' c',b'∈fz∧κ b'=some (g',c'))→g'≠g:=by
  intro g' h e; subst e; rcases h with h | ⟨b',c',hb,hk⟩
  · exact hnS h
  · exact (hfz b' hb).2 (hinj b' b g' c' c (hfz b' hb).1 hd hk hκ)
 exact {
  os:=rfl
  tape:=rfl
  output:=.of
  size:=by simp
  blk:=fun g' _ hb=>hset.2 g' (fun e=>hb b c (.inl (by simp [ids])) hd (by rw [e]; exact hκ))
  sup:=fun _ h=>.inl h
  snew:=fun g' h=>by
   rcases h with h | ⟨b',c',hb,hk⟩
   · exact .inl h
   · exact .inr (.inr ⟨b',c',.inl hb,(hfz b' hb).1,hk⟩)
  slt:=fun g' h=>by
   rcases h with h | ⟨b',c',hb,hk⟩
   · simpa using hS g' h
   · simpa using hfl b' hb g' c' hk
  sfrz:=fun b' hb g' c' hk=>.inr ⟨b',c',hb,hk⟩
  kold:=fun _ _ _=>rfl
  kout:=fun _ _=>rfl
  knew:=fun b' h hb=>by simp [ids] at hb; subst hb; exact absurd (h hd) (by simp)
  one:=fun b' b'' h _ hb=>by simp [ids] at hb; subst hb; exact absurd (h hd) (by simp)
  res:=fun b hb=>by cases hb
  ents:=fun b' e hb=>by simp at hb; obtain ⟨rfl,rfl⟩:=hb; refine EntAt.ofMap h0 hbx ⟨g,c,en,clock,hκ,fun h=>hne g h rfl,hset.1,hlen,h1,h2,h3,fun i k v e hi he=>?_⟩; obtain ⟨q1,q2⟩:=h4 i k v e hi he; exact ⟨q1.mono (fun _ h=>h) (fun g' h=>hset.2 g' (hne g' h)),q2.mono (fun _ h=>h) (fun g' h=>hset.2 g' (hne g' h))⟩
  val:=hv _ _ _ _ }
theorem zuW {L:Nat→Option Ent} {t:TypeId} {m k x:AV} {r:Res} {vm vk vx:Value} (hS:∀ g,S g→g < w.heap.size) (hDL:∀ b,D b↔(L b).isSome=true)
  (hinj:∀ b b' g c c',D b→D b'→κ b=some (g,c)→κ b'=some (g,c')→b=b') (h:aMSet P L t m k x=some r) (hm:VRel S κ D w m vm) (hk:VRel S κ D w k vk) (hx:VRel S κ D w x vx)
  (hL:∀ b ent,L b=some ent→EntAt S κ D w (κ b) ent):∃ w' S',(Instr.mapUpdate t vm vk vx).run P w=.ok () w'∧(∀ y,EffAt S κ D w S' κ r y w')∧Dis D r:=by
 unfold aMSet at h; split at h
 case h_2=>cases h
 rename_i kt et hu; split at h
 case h_2=>cases h
 rename_i b; split at h
 case h_2=>cases h
 rename_i ent hl; split at h
 case isFalse=>cases h
 rename_i hc; obtain ⟨h0,hbx,hkey,hids⟩:=hc; split at h
 case h_2=>cases h
 rename_i x' hsn; split at h
 case isFalse=>cases h
 split at h
 case h_2=>cases h
 rename_i es hms; simp only [zat] at h; subst h; obtain ⟨g,c,hd,hkb,rfl⟩:=hm.map_inv; obtain ⟨g',c',en,clock,hk',hn,hg,hlen,h1,h2,h3,h4⟩:=(hL b ent hl).2 (zri h0 hbx); rw [hkb] at hk'; simp only [zat,zaG] at hk'; obtain ⟨rfl,rfl⟩:=hk'
 have hfz:∀ b'∈x.ids L 5,D b'∧b'≠b:=fun b' hb=>by have:=zbQ.1 hids b' hb; simp only [zbK,bne_iff_ne] at this; exact ⟨ids_D hL 5 x vx hx b' hb,this.2⟩
 have hfl:∀ b'∈x.ids L 5,∀ g' c',κ b'=some (g',c')→g' < w.heap.size:=fun b' hb g' c' hk'=>by obtain ⟨ent',he'⟩:=zb0.1 ((hDL b').1 (hfz b' hb).1); have:=hL b' ent' he'; rw [hk'] at this; exact this.lt
 have hxv:CRel (fun g'=>S g'∨∃ b' c',b'∈x.ids L 5∧κ b'=some (g',c')) w x' vx:=
  zg8 hL (fun g h=>.inl h) 5 (zoJ hx) hsn (fun b' hb g c hk=>.inr ⟨b',c,by rw [nrm_ids] at hb; exact hb,hk⟩)
 have hkv:CRel (fun g'=>S g'∨∃ b' c',b'∈x.ids L 5∧κ b'=some (g',c')) w k vk:=(keyAV_val hkey hk).mono (fun g h=>.inl h) (fun _ _=>rfl)
 have h4':∀ (i:Nat) (k v:AV) (e:MapEntry),ent.es[i]?=some [k,v]→en[i]?=some e→CRel (fun g'=>S g'∨∃ b' c',b'∈x.ids L 5∧κ b'=some (g',c')) w k e.key∧CRel (fun g'=>S g'∨∃ b' c',b'∈x.ids L 5∧κ b'=some (g',c')) w v e.val:=
  fun i k v e hi he=>⟨(h4 i k v e hi he).1.mono (fun g h=>.inl h) (fun _ _=>rfl),(h4 i k v e hi he).2.mono (fun g h=>.inl h) (fun _ _=>rfl)⟩
 have hck:=zqr hkey hk false w; have dis:Dis D { val:=.bot,set:=[(b,{ ent with es:=es })],frz:=x.ids L 5 }:=fun b' hb=>⟨(hfz b' hb).1,by simp [ids]; exact (hfz b' hb).2,by simp⟩
 rcases zys hms with ⟨hF,rfl⟩ | ⟨j,hF,rfl⟩
 · obtain ⟨q,q1,q2⟩:=zm1 hF hk (zf4.trans hlen) (fun i ka va e h1 h2=>(h4 i ka va e h1 (by simpa using h2)).1) hkey w; simp only at q2; subst q2; refine ⟨{ w with heap:=w.heap.setIfInBounds g (.map (en.push { key:=vk,val:=vx,born:=clock }) (clock+1)) },_,?_,fun y=>EffAt.mapSet hS hd hkb h0 hbx hg hn hfz hfl hinj ?_ ?_ ?_ ?_ ?_ (fun _ _ _ _=>.bot y),dis⟩
   · simp only [Instr.mapUpdate,Sem.run_bind,run_underlying hu,Result.andThen_ok,MapKept.run_getObj_map hg,hck,q1,MapKept.run_setObj_map _ hg]
   · simp [hlen]
   · intro i e he; rw [zoC] at he; split at he
     · simp only [zat] at he; subst he; exact Nat.lt_succ_self _
     · have:=h1 i e he; omega
   · intro i j e f hij he hf; have hjs:j < en.size+1:=by have:=(ziO.1 hf).1; simpa using this
     rw [zoC,if_neg (by omega)] at he; rw [zoC] at hf; split at hf
     · simp only [zat] at hf; subst hf; exact h1 i e he
     · exact h2 i j e f hij he hf
   · intro cs hcs; rcases zbF.1 hcs with hcs | hcs
     · exact h3 cs hcs
     · simp at hcs; exact ⟨_,_,hcs⟩
   · intro i k1 v1 e hi he; rw [zoC] at he; rw [zd5] at hi; split at he
     · rename_i hie; simp only [zat] at he; subst he; rw [if_neg (by omega),show i - ent.es.length=0 by omega] at hi; simp only [ze5,zat,zbm,and_true] at hi; obtain ⟨rfl,rfl⟩:=hi; exact ⟨hkv,hxv⟩
     · rename_i hie; have hlt:=(ziO.1 he).1; rw [if_pos (by omega)] at hi; exact h4' i k1 v1 e hi he
 · obtain ⟨q,q1,e0,q2,q3,q4⟩:=zm1 hF hk (zf4.trans hlen) (fun i ka va e h1 h2=>(h4 i ka va e h1 (by simpa using h2)).1) hkey w; subst q3; have q2':en[j]?=some e0:=by simpa using q2
   have hjlt:=(ziO.1 q2').1
   have hgetm:∀ (i:Nat) (e:MapEntry),(en.modify j fun e=>{ e with key:=vk,val:=vx })[i]?=some e→(i=j∧e={ e0 with key:=vk,val:=vx })∨(i≠j∧en[i]?=some e):=by
    intro i e he; rw [Array.getElem?_modify] at he; split at he
    · rename_i hij; subst hij; rw [q2'] at he; simp only [zc1,zat] at he; exact .inl ⟨rfl,he.symm⟩
    · rename_i hij; exact .inr ⟨fun e=>hij e.symm,he⟩
   refine ⟨{ w with heap:=w.heap.setIfInBounds g (.map (en.modify j fun e=>{ e with key:=vk,val:=vx }) clock) },_,?_,fun y=>EffAt.mapSet hS hd hkb h0 hbx hg hn hfz hfl hinj ?_ ?_ ?_ ?_ ?_ (fun _ _ _ _=>.bot y),dis⟩
   · simp only [Instr.mapUpdate,Sem.run_bind,run_underlying hu,Result.andThen_ok,MapKept.run_getObj_map hg,hck,q1,Instr.keyThatStays,q2',zc1,ziP,q4,if_true,Sem.run_pure,MapKept.run_setObj_map _ hg]
   · simp [hlen]
   · intro i e he; rcases hgetm i e he with ⟨_,rfl⟩ | ⟨_,he⟩
     · exact h1 j e0 q2'
     · exact h1 i e he
   · intro i i' e f hij he hf; rcases hgetm i e he with ⟨hi1,rfl⟩ | ⟨_,he2⟩
     · rcases hgetm i' f hf with ⟨hi2,rfl⟩ | ⟨_,hf2⟩
       · omega
       · exact h2 i i' e0 f hij (by rw [hi1]; exact q2') hf2
     · rcases hgetm i' f hf with ⟨hi2,rfl⟩ | ⟨_,hf2⟩
       · exact h2 i i' e e0 hij he2 (by rw [hi2]; exact q2')
       · exact h2 i i' e f hij he2 hf2
   · intro cs hcs; rcases aLiAs54 hcs with hcs | rfl
     · exact h3 cs hcs
     · exact ⟨_,_,rfl⟩
   · intro i k1 v1 e hi he; rw [zmO] at hi; rcases hgetm i e he with ⟨rfl,rfl⟩ | ⟨hij,he⟩
     · rw [if_pos rfl,if_pos (by omega)] at hi; simp only [zat,zbm,and_true] at hi; obtain ⟨rfl,rfl⟩:=hi; exact ⟨hkv,hxv⟩
     · rw [if_neg (fun e=>hij e.symm)] at hi; exact h4' i k1 v1 e hi he
theorem zz9 {L:Nat→Option Ent} {t ty:TypeId} {ts:Array TypeId} {m k:AV} {r:Res} {vm vk:Value} (hS:∀ g,S g→g < w.heap.size)
  (hinj:∀ b b' g c c',D b→D b'→κ b=some (g,c)→κ b'=some (g,c')→b=b') (hts:ts[0]?=some t) (h:aMDel P L t m k=some r) (hm:VRel S κ D w m vm) (hk:VRel S κ D w k vk)
  (hL:∀ b ent,L b=some ent→EntAt S κ D w (κ b) ent):∃ y w' S',(Builtin.delete_ ts ty #[vm,vk]).run P w=.ok y w'∧EffAt S κ D w S' κ r y w'∧r.frz=[]:=by
 unfold aMDel at h; split at h
 case h_2=>cases h
 rename_i kt et hu; split at h
 case h_2=>cases h
 rename_i b; split at h
 case h_2=>cases h
 rename_i ent hl; split at h
 case isFalse=>cases h
 rename_i hc; obtain ⟨h0,hbx,hkey⟩:=hc; split at h
 case h_2=>cases h
 rename_i es hms; simp only [zat] at h; subst h; obtain ⟨g,c,hd,hkb,rfl⟩:=hm.map_inv; obtain ⟨g',c',en,clock,hk',hn,hg,hlen,h1,h2,h3,h4⟩:=(hL b ent hl).2 (zri h0 hbx); rw [hkb] at hk'; simp only [zat,zaG] at hk'; obtain ⟨rfl,rfl⟩:=hk'
 have h4':∀ (i:Nat) (k v:AV) (e:MapEntry),ent.es[i]?=some [k,v]→en[i]?=some e→CRel (fun g'=>S g'∨∃ b' c',b'∈([]:List Nat)∧κ b'=some (g',c')) w k e.key∧CRel (fun g'=>S g'∨∃ b' c',b'∈([]:List Nat)∧κ b'=some (g',c')) w v e.val:=
  fun i k v e hi he=>⟨(h4 i k v e hi he).1.mono (fun g h=>.inl h) (fun _ _=>rfl),(h4 i k v e hi he).2.mono (fun g h=>.inl h) (fun _ _=>rfl)⟩
 have hck:=zqr hkey hk en.isEmpty w; have hv:∀ (S':Nat→Prop) (κ':Kap) (D':Nat→Prop) (w':World),VRel S' κ' D' w' (.tup []) (.tuple #[]):=fun _ _ _ _=>.c (.tup [] #[] rfl (fun j c x hj=>by simp at hj))
 rcases zyo hms with ⟨hF,rfl⟩ | ⟨j,hF,rfl⟩
 · obtain ⟨q,q1,q2⟩:=zm1 hF hk (zf4.trans hlen) (fun i ka va e h1 h2=>(h4 i ka va e h1 (by simpa using h2)).1) hkey w; simp only at q2; subst q2; refine ⟨.tuple #[],{ w with heap:=w.heap.setIfInBounds g (.map en clock) },_,?_,EffAt.mapSet (fz:=[]) hS hd hkb h0 hbx hg hn (by simp) (by simp) hinj hlen h1 h2 h3 h4' hv,rfl⟩; simp [Builtin.delete_,hts,run_underlying hu,MapKept.run_getObj_map hg,-Array.isEmpty_iff,hck,q1,MapKept.run_setObj_map _ hg]
 · obtain ⟨q,q1,e0,q2,q3,q4⟩:=zm1 hF hk (zf4.trans hlen) (fun i ka va e h1 h2=>(h4 i ka va e h1 (by simpa using h2)).1) hkey w; subst q3; have q2':en[j]?=some e0:=by simpa using q2
   have hjlt:=(ziO.1 q2').1
   have hgetm:∀ (i:Nat),(en.eraseIdxIfInBounds j)[i]?=if i < j then en[i]? else en[i+1]?:=by intro i; rw [Array.eraseIdxIfInBounds,dif_pos hjlt,← zqL,Array.toList_eraseIdx,List.getElem?_eraseIdx]; simp
   refine ⟨.tuple #[],{ w with heap:=w.heap.setIfInBounds g (.map (en.eraseIdxIfInBounds j) clock) },_,?_,EffAt.mapSet (fz:=[]) hS hd hkb h0 hbx hg hn (by simp) (by simp) hinj ?_ ?_ ?_ ?_ ?_ hv,rfl⟩
   · simp [Builtin.delete_,hts,run_underlying hu,MapKept.run_getObj_map hg,-Array.isEmpty_iff,hck,q1,MapKept.run_setObj_map _ hg]
   · rw [Array.eraseIdxIfInBounds,dif_pos hjlt,Array.size_eraseIdx,List.length_eraseIdx,if_pos (by omega),hlen]
   · intro i e he; rw [hgetm] at he; split at he
     · exact h1 i e he
     · exact h1 (i+1) e he
   · intro i i' e f hij he hf; rw [hgetm] at he hf; split at he <;> split at hf
     · exact h2 i i' e f hij he hf
     · exact h2 i (i'+1) e f (by omega) he hf
     · omega
     · exact h2 (i+1) (i'+1) e f (by omega) he hf
   · intro cs hcs; exact h3 cs (List.mem_of_mem_eraseIdx hcs)
   · intro i k1 v1 e hi he; rw [List.getElem?_eraseIdx] at hi; rw [hgetm] at he; split at hi
     · rename_i hlt; rw [if_pos hlt] at he; exact h4' i k1 v1 e hi he
     · rename_i hlt; rw [if_neg hlt] at he; exact h4' (i+1) k1 v1 e hi he
end
section
variable {P:Program} {S:Nat→Prop} {κ:Kap} {D:Nat→Prop} {w:World} {L:Nat→Option Ent}
theorem zyw:∀ (cs:List AV) (q:Nat) (cs':List AV) (nms:Mem) (nbk:List (Nat×Nat)),nest L q cs=some (cs',nms,nbk)→cs'.length=cs.length∧nbk.map (·.2)=nms.map (·.1)∧(∀ p∈nbk,q≤p.2∧p.2 < 950∧p.1 < 1000∧(L p.1).isSome=true)∧(nbk.map (·.1)).Nodup∧(nbk.map (·.2)).Nodup∧(∀ p∈nms,∃ c,(c,p.1)∈nbk∧L c=some p.2∧p.2.box=false)∧∀ (S S':Nat→Prop) (κ κ':Kap) (D D':Nat→Prop) (w:World),(∀ g,S g→S' g)→(∀ p∈nbk,D' p.2∧κ' p.2=κ p.1)→∀ (j:Nat) (a a':AV) (x:Value),cs[j]?=some a→cs'[j]?=some a'→VRel S κ D w a x→VRel S' κ' D' w a' x:=by
 intro cs
 induction cs with
 | nil=>intro q cs' nms nbk h; simp [nest] at h; obtain ⟨rfl,rfl,rfl⟩:=h; simp
 | cons a r ih =>
   intro q cs' nms nbk h
   have one:∀ (c:Nat) (ent:Ent) (av:AV) (cs0:List AV) (nms0:Mem) (nbk0:List (Nat×Nat)),nest L (q+1) r=some (cs0,nms0,nbk0)→L c=some ent→ent.box=false→c < 1000→q < 950→nbk0.all (fun p=>p.1≠c)=true→(∀ (S S':Nat→Prop) (κ κ':Kap) (D D':Nat→Prop) (w:World) (x:Value),D' q→κ' q=κ c→VRel S κ D w a x→VRel S' κ' D' w av x)→cs'=av :: cs0→nms=(q,ent) :: nms0→nbk=(c,q) :: nbk0→cs'.length=(a :: r).length∧nbk.map (·.2)=nms.map (·.1)∧(∀ p∈nbk,q≤p.2∧p.2 < 950∧p.1 < 1000∧(L p.1).isSome=true)∧(nbk.map (·.1)).Nodup∧(nbk.map (·.2)).Nodup∧(∀ p∈nms,∃ c,(c,p.1)∈nbk∧L c=some p.2∧p.2.box=false)∧∀ (S S':Nat→Prop) (κ κ':Kap) (D D':Nat→Prop) (w:World),(∀ g,S g→S' g)→(∀ p∈nbk,D' p.2∧κ' p.2=κ p.1)→∀ (j:Nat) (a0 a':AV) (x:Value),(a :: r)[j]?=some a0→cs'[j]?=some a'→VRel S κ D w a0 x→VRel S' κ' D' w a' x:=by
    intro c ent av cs0 nms0 nbk0 hr hl hb hc hq hall hv e1 e2 e3; obtain ⟨i1,i2,i3,i4,i5,i6,i7⟩:=ih (q+1) cs0 nms0 nbk0 hr; subst e1; subst e2; subst e3; refine ⟨by simp [i1],by simp [i2],fun p hp=>?_,?_,?_,fun p hp=>?_,fun S S' κ κ' D D' w hS hk j a0 a' x h1 h2 h3=>?_⟩
    · rcases za1.1 hp with rfl | hp
      · exact ⟨zbR _,hq,hc,by simp [hl]⟩
      · have:=i3 p hp; exact ⟨by omega,this.2⟩
    · simp only [zco,zfD]; refine ⟨fun hm=>?_,i4⟩; obtain ⟨p,hp,e⟩:=zbC.1 hm; have:=zbQ.1 hall p hp; simp at this; exact this e
    · simp only [zco,zfD]; refine ⟨fun hm=>?_,i5⟩; obtain ⟨p,hp,e⟩:=zbC.1 hm; have:=(i3 p hp).1; omega
    · rcases za1.1 hp with rfl | hp
      · exact ⟨c,ziR,hl,hb⟩
      · obtain ⟨c',h1,h2⟩:=i6 p hp; exact ⟨c',ze4 _ h1,h2⟩
    · cases j with
      | zero=>simp at h1 h2; subst h1; subst h2; have:=hk (c,q) ziR; exact hv S S' κ κ' D D' w x this.1 this.2 h3
      | succ j=>exact i7 S S' κ κ' D D' w hS (fun p hp=>hk p (ze4 _ hp)) j a0 a' x (by simpa using h1) (by simpa using h2) h3
   simp only [nest] at h; split at h
   · rename_i hC; split at h
     case h_2=>cases h
     rename_i cs0 ms0 bk0 hr; simp only [zat,zaG] at h; obtain ⟨rfl,rfl,rfl⟩:=h; obtain ⟨i1,i2,i3,i4,i5,i6,i7⟩:=ih q _ _ _ hr; refine ⟨by simp [i1],i2,i3,i4,i5,i6,fun S S' κ κ' D D' w hS hk j a0 a' x h1 h2 h3=>?_⟩
     cases j with
     | zero=>simp at h1 h2; subst h1; subst h2; exact .c ((zgP 4 hC h3).mono hS (fun _ _=>rfl))
     | succ j=>exact i7 S S' κ κ' D D' w hS hk j a0 a' x (by simpa using h1) (by simpa using h2) h3
   · split at h
     · rename_i c z n _; split at h
       case h_2=>cases h
       rename_i ent cs0 ms0 bk0 hl hr; split at h
       case isFalse=>cases h
       rename_i hc; obtain ⟨hz,hb,hzp,hn,hc1,hq,hall⟩:=hc; simp only [zat,zaG] at h; obtain ⟨e1,e2,e3⟩:=h; refine one c ent _ cs0 ms0 bk0 hr hl hb hc1 hq hall ?_ e1.symm e2.symm e3.symm; intro S S' κ κ' D D' w x hd hk hv
       cases hv with
       | c h=>cases h
       | row0 _ _ hd' hk'=>exact .row0 q z hd (hk.trans hk')
       | row _ _ _ _ g cc off' cap hd' hk' hn ho hcc=>exact .row q z 0 n g cc off' cap hd (hk.trans hk') hn ho hcc
     · rename_i c _; split at h
       case h_2=>cases h
       rename_i ent cs0 ms0 bk0 hl hr; split at h
       case isFalse=>cases h
       rename_i hc; obtain ⟨hz,hb,hc1,hq,hall⟩:=hc; simp only [zat,zaG] at h; obtain ⟨e1,e2,e3⟩:=h; refine one c ent _ cs0 ms0 bk0 hr hl hb hc1 hq hall ?_ e1.symm e2.symm e3.symm; intro S S' κ κ' D D' w x hd hk hv; obtain ⟨g,cc,hd',hk',rfl⟩:=hv.map_inv; exact .map q g cc hd (hk.trans hk')
     · cases h
theorem zt4 {bk:List (Nat×Nat)}:∀ (cs cs':List AV),zrr bk cs=some cs'→cs'.length=cs.length∧∀ (S:Nat→Prop) (κ κ':Kap) (D D':Nat→Prop) (w:World),(∀ p∈bk,D' p.1∧κ' p.1=κ p.2)→∀ (j:Nat) (a a':AV) (x:Value),cs[j]?=some a→cs'[j]?=some a'→VRel S κ D w a x→VRel S κ' D' w a' x
 | [],cs',h=>by simp [zrr] at h; subst h; simp
 | a :: r,cs',h=>by
   simp only [zrr] at h; split at h
   · cases h
   · rename_i cs0 hr; obtain ⟨i1,i2⟩:=zt4 r cs0 hr
     have one:∀ av:AV,cs'=av :: cs0→(∀ (S:Nat→Prop) (κ κ':Kap) (D D':Nat→Prop) (w:World) (x:Value),(∀ p∈bk,D' p.1∧κ' p.1=κ p.2)→VRel S κ D w a x→VRel S κ' D' w av x)→cs'.length=(a :: r).length∧∀ (S:Nat→Prop) (κ κ':Kap) (D D':Nat→Prop) (w:World),(∀ p∈bk,D' p.1∧κ' p.1=κ p.2)→∀ (j:Nat) (a0 a':AV) (x:Value),(a :: r)[j]?=some a0→cs'[j]?=some a'→VRel S κ D w a0 x→VRel S κ' D' w a' x:=by
      intro av e hv; subst e; refine ⟨by simp [i1],fun S κ κ' D D' w hk j a0 a' x h1 h2 h3=>?_⟩
      cases j with
      | zero=>simp at h1 h2; subst h1; subst h2; exact hv S κ κ' D D' w x hk h3
      | succ j=>exact i2 S κ κ' D D' w hk j a0 a' x (by simpa using h1) (by simpa using h2) h3
     split at h
     · rename_i hC; injection h with h; exact one a h.symm (fun S κ κ' D D' w x _ hv=>.c (zgP 4 hC hv))
     · split at h
       · rename_i q z n _; split at h
         case h_2=>cases h
         rename_i p hf; injection h with h; have hp:=zoA hf; have hq:p.2=q:=by simpa using zoB hf
         refine one _ h.symm (fun S κ κ' D D' w x hk hv=>?_); obtain ⟨k1,k2⟩:=hk p hp; rw [hq] at k2
         cases hv with
         | c h=>cases h
         | row0 _ _ hd' hk'=>exact .row0 p.1 z k1 (k2.trans hk')
         | row _ _ _ _ g cc off' cap hd' hk' hn ho hcc=>exact .row p.1 z 0 n g cc off' cap k1 (k2.trans hk') hn ho hcc
       · rename_i q _; split at h
         case h_2=>cases h
         rename_i p hf; injection h with h; have hp:=zoA hf; have hq:p.2=q:=by simpa using zoB hf
         refine one _ h.symm (fun S κ κ' D D' w x hk hv=>?_); obtain ⟨k1,k2⟩:=hk p hp; rw [hq] at k2; obtain ⟨g,cc,hd',hk',rfl⟩:=hv.map_inv; exact .map p.1 g cc k1 (k2.trans hk')
       · cases h
theorem zrN {ms:Mem}:∀ (bk:List (Nat×Nat)) (back:List (Nat×Ent)),backN ms bk=some back→ids back=bk.map (·.1)∧∀ p∈back,∃ q,(p.1,q)∈bk∧look ms q=some p.2∧p.2.box=false
 | [],back,h=>by simp [backN] at h; subst h; simp [ids]
 | (c,q) :: r,back,h=>by
   simp only [backN] at h; split at h
   · rename_i ent l hl hr; split at h
     case isFalse=>cases h
     rename_i hb; injection h with h; subst h; obtain ⟨h1,h2⟩:=zrN r l hr; refine ⟨by simp [ids] at h1 ⊢; exact h1,fun p hp=>?_⟩; rcases za1.1 hp with rfl | hp
     · exact ⟨q,ziR,hl,hb⟩
     · obtain ⟨q',q1,q2⟩:=h2 p hp; exact ⟨q',ze4 _ q1,q2⟩
   · cases h
theorem zwY (hL:∀ b ent,L b=some ent→EntAt S κ D w (κ b) ent) {k0:Nat} {x0:AV}:∀ (args:List AV) (k:Nat) (as:List AV) (fz:List Nat),dArgs L k0 x0 k args=some (as,fz)→∀ vals:List Value,vals.length=args.length→(∀ (j:Nat) (a:AV) (x:Value),args[j]?=some a→vals[j]?=some x→VRel S κ D w a x)→as.length=args.length∧(∀ b∈fz,D b)∧(∀ j a,j+k=k0→as[j]?=some a→a=x0)∧∀ (S':Nat→Prop) (κ':Kap) (D':Nat→Prop),(∀ g,S g→S' g)→(∀ b∈fz,∀ g c,κ b=some (g,c)→S' g)→∀ (j:Nat) (a:AV) (x:Value),j+k≠k0→as[j]?=some a→vals[j]?=some x→VRel S' κ' D' w a x
 | [],k,as,fz,h,vals,_,_=>by simp [dArgs] at h; obtain ⟨rfl,rfl⟩:=h; simp
 | a :: r,k,as,fz,h,[],hl,_=>by simp at hl
 | a :: r,k,as,fz,h,x :: vals,hl,hv=>by
   simp only [dArgs] at h; split at h
   · cases h
   · rename_i as0 fz0 hr; obtain ⟨i1,i2,i3,i4⟩:=zwY hL r (k+1) as0 fz0 hr vals (by simpa using hl) (fun j a x hj hx=>hv (j+1) a x (by simpa using hj) (by simpa using hx)); split at h
     · rename_i hk; simp only [zat,zaG] at h; obtain ⟨rfl,rfl⟩:=h; refine ⟨by simp [i1],i2,fun j b hj hb=>?_,fun S' κ' D' hS hf j b y hj hb hy=>?_⟩
       · cases j with
         | zero=>simpa using hb.symm
         | succ j=>exact i3 j b (by omega) (by simpa using hb)
       · cases j with
         | zero=>omega
         | succ j=>exact i4 S' κ' D' hS hf j b y (by omega) (by simpa using hb) (by simpa using hy)
     · rename_i hk; split at h
       case h_2=>cases h
       rename_i a' hs; simp only [zat,zaG] at h; obtain ⟨rfl,rfl⟩:=h; have hax:=hv 0 a x rfl rfl; refine ⟨by simp [i1],fun b hb=>?_,fun j b hj hb=>?_,fun S' κ' D' hS hf j b y hj hb hy=>?_⟩
       · rcases zbF.1 hb with h | h
         · exact ids_D hL 5 a x hax b h
         · exact i2 b h
       · cases j with
         | zero=>omega
         | succ j=>exact i3 j b (by omega) (by simpa using hb)
       · cases j with
         | zero=>simp at hb hy; subst hb; subst hy; exact .c (zg8 hL hS 5 hax hs (fun b hb=>hf b (zqM _ hb)))
         | succ j=>exact i4 S' κ' D' hS (fun b hb=>hf b (List.mem_append_right _ hb)) j b y (by omega) (by simpa using hb) (by simpa using hy)
theorem box_ren {S S':Nat→Prop} {κ κ':Kap} {D D':Nat→Prop} {w:World} {kb:Option (Nat×Nat)} {ent:Ent} {cs cs':List AV} (h:EntAt S κ D w kb ent) (hb:ent.box=true) (he:ent.es=[cs]) (hl:cs'.length=cs.length)
  (hn:∀ g c,kb=some (g,c)→¬ S' g) (hv:∀ (j:Nat) (a a':AV) (x:Value),cs[j]?=some a→cs'[j]?=some a'→VRel S κ D w a x→VRel S' κ' D' w a' x):EntAt S' κ' D' w kb { ent with es:=[cs'] }:=by
 obtain ⟨q1,q2⟩:=h.1 (.inl hb); refine EntAt.of (.inl hb) ⟨fun x hx=>?_,?_⟩
 · have:x=cs':=by simpa using hx
   subst this; rw [hl]; exact q1 cs (by rw [he]; exact zcf.2 rfl)
 · cases kb with
   | none=>simp only at q2 ⊢; rw [he] at q2; exact absurd q2.1 (by simp)
   | some gc =>
     obtain ⟨g,c⟩:=gc; obtain ⟨cells,c1,c2,c3,c4,c5,c6⟩:=q2; refine ⟨cells,c1,c2,by rw [he] at c3; simpa using c3,c4,hn g c rfl,fun i j xs a hi hj=>?_⟩
     have hi0:i=0∧xs=cs':=by
      cases i with
      | zero=>simp at hi; exact ⟨rfl,hi.symm⟩
      | succ i=>simp at hi
     obtain ⟨rfl,rfl⟩:=hi0; have hlt:j < cs.length:=by have:=(zbs.1 hj).1; omega
     obtain ⟨u,u1,u2,u3,_⟩:=c6 0 j cs cs[j] (by rw [he]; rfl) (zaC hlt); exact ⟨u,u1,u2,fun hbx=>hv j cs[j] a u (zaC hlt) hj (u3 hbx),fun hbx=>by rw [hb] at hbx; cases hbx⟩
theorem ztW:∀ (l:List (Nat×Nat)),(l.map (·.1)).Nodup→∀ x y z,(x,y)∈l→(x,z)∈l→y=z:=by
 intro l hn
 induction l with
 | nil=>intro x y z h; cases h
 | cons q l ihl =>
   intro x y z h1 h2; simp only [zco,zfD] at hn; rcases za1.1 h1 with rfl | h1'
   · rcases za1.1 h2 with h2' | h2'
     · injection h2' with _ h2'; exact h2'.symm
     · exact absurd (zbC.2 ⟨_,h2',rfl⟩) hn.1
   · rcases za1.1 h2 with h2' | h2'
     · exact absurd (zbC.2 ⟨_,h1',by rw [← h2']⟩) hn.1
     · exact ihl hn.2 x y z h1' h2'
theorem pair_inj2:∀ (l:List (Nat×Nat)),(l.map (·.2)).Nodup→∀ x y z,(x,z)∈l→(y,z)∈l→x=y:=by
 intro l hn
 induction l with
 | nil=>intro x y z h; cases h
 | cons q l ihl =>
   intro x y z h1 h2; simp only [zco,zfD] at hn; rcases za1.1 h1 with rfl | h1'
   · rcases za1.1 h2 with h2' | h2'
     · injection h2' with h2' _; exact h2'.symm
     · exact absurd (zbC.2 ⟨_,h2',rfl⟩) hn.1
   · rcases za1.1 h2 with h2' | h2'
     · exact absurd (zbC.2 ⟨_,h1',by rw [← h2']⟩) hn.1
     · exact ihl hn.2 x y z h1' h2'
theorem zz8 {call:zbu} (hcall:CallOK P call) {f:FuncId} {k0:Nat} {args:List AV} {r:Res} {vals:Array Value}
  (hS:∀ g,S g→g < w.heap.size) (hDL:∀ b,D b↔(L b).isSome=true) (hinj:∀ b b' g c c',D b→D b'→κ b=some (g,c)→κ b'=some (g,c')→b=b')
  (hL:∀ b ent,L b=some ent→EntAt S κ D w (κ b) ent) (h:aDeep call L f k0 args=some r) (hl:vals.size=args.length)
  (hv:∀ (j:Nat) (a:AV) (x:Value),args[j]?=some a→vals[j]?=some x→VRel S κ D w a x):enters P f=true∧Calls P f vals w fun e w'=>∃ x S' κ',e=.returned x∧EffAt S κ D w S' κ' r x w'∧∀ b∈r.frz,D b∧b ∉ ids r.set∧r.kill≠some b:=by
 unfold aDeep at h; split at h
 case h_2=>cases h
 rename_i b z hk0; split at h
 case h_2=>cases h
 rename_i ent hlb; split at h
 case isFalse=>cases h
 split at h
 case h_2=>cases h
 rename_i cs hes; split at h
 case h_2=>cases h
 rename_i cs' nms nbk as fz hnest hda; split at h
 case isFalse=>cases h
 rename_i hcond; obtain ⟨hz,hbx,hnb,hfz⟩:=hcond; split at h
 case h_2=>cases h
 rename_i rv ms' hc; obtain ⟨n1,n2,n3,n4,n5,n6,n7⟩:=zyw cs 900 cs' nms nbk hnest; obtain ⟨d1,d2,d3,d4⟩:=zwY (S:=S) (κ:=κ) (D:=D) (w:=w) hL args 0 as fz hda vals.toList (by simpa using hl) (fun j a x hj hx=>hv j a x hj (by simpa using hx)); obtain ⟨hen,hcalls⟩:=hcall f as _ rv ms' hc; refine ⟨hen,?_⟩; have hDb:D b:=(hDL b).2 (by simp [hlb]); have hDn:∀ p∈nbk,D p.1:=fun p hp=>(hDL p.1).2 (n3 p hp).2.2.2
 have hnb':∀ p∈nbk,p.1≠b:=fun p hp=>by simpa using zbQ.1 hnb p hp
 have hfz':∀ c∈fz,c≠b∧∀ p∈nbk,p.1≠c:=fun c hc=>by have h1:=zbQ.1 hfz c hc; simp only [zbK,bne_iff_ne,decide_eq_true_eq] at h1; exact ⟨h1.2.1,fun p hp=>by simpa using zbQ.1 h1.2.2 p hp⟩
 let ms:Mem:=(1000,{ ent with es:=[cs'] }) :: nms
 let κi:Kap:=fun k=>if k=1000 then κ b else kapOf κ nbk k
 let Sc:Nat→Prop:=fun g=>S g∨∃ b c,b∈fz∧κ b=some (g,c)
 have hq:∀ p∈nbk,p.2≠1000:=fun p hp=>by have:=(n3 p hp).2.1; omega
 have hκb:κi 1000=κ b:=if_pos rfl
 have hκn:∀ p∈nbk,κi p.2=κ p.1:=fun p hp=>by show (if p.2=1000 then _ else _)=_; rw [if_neg (hq p hp),zhh n5 p hp]
 have hDi:Dm ms 1000:=by show (look ms 1000).isSome=true; simp [ms,look]
 have hDin:∀ p∈nbk,Dm ms p.2:=fun p hp=>by
  refine zfp ?_; have:p.2∈nms.map (·.1):=by rw [← n2]; exact zbC.2 ⟨p,hp,rfl⟩
  simp [ms,ids] at this ⊢; exact .inr this
 have hms:∀ k,Dm ms k→(k=1000∧True)∨∃ c,(c,k)∈nbk:=fun k hk=>by
  obtain ⟨e,he⟩:=zb0.1 hk; rcases za1.1 (zih he) with h1 | h1
  · injection h1 with h1 _; exact .inl ⟨h1,trivial⟩
  · obtain ⟨c,hc,_⟩:=n6 _ h1; exact .inr ⟨c,hc⟩
 have back:∀ k,Dm ms k→∃ c,D c∧κi k=κ c∧(c=b∨(c,k)∈nbk)∧(k=1000→c=b):=fun k hk=>by
  rcases hms k hk with ⟨rfl,-⟩ | ⟨c,hc⟩
  · exact ⟨b,hDb,hκb,.inl rfl,fun _=>rfl⟩
  · exact ⟨c,hDn _ hc,hκn _ hc,.inr hc,fun e=>absurd e (hq _ hc)⟩
 have hinjI:∀ k k' g c c',Dm ms k→Dm ms k'→κi k=some (g,c)→κi k'=some (g,c')→k=k':=fun k k' g c c' hk hk' e e'=>by
  rcases hms k hk with ⟨rfl,-⟩ | ⟨q,hq1⟩
  · rcases hms k' hk' with ⟨rfl,-⟩ | ⟨q',hq2⟩
    · rfl
    · rw [hκb] at e; rw [hκn _ hq2] at e'; exact absurd (hinj _ _ _ _ _ hDb (hDn _ hq2) e e').symm (hnb' _ hq2)
  · rcases hms k' hk' with ⟨rfl,-⟩ | ⟨q',hq2⟩
    · rw [hκb] at e'; rw [hκn _ hq1] at e; exact absurd (hinj _ _ _ _ _ (hDn _ hq1) hDb e e') (hnb' _ hq1)
    · rw [hκn _ hq1] at e; rw [hκn _ hq2] at e'; have:=hinj _ _ _ _ _ (hDn _ hq1) (hDn _ hq2) e e'; simp only at this; subst this; exact ztW nbk n4 _ _ _ hq1 hq2
 have hScn:∀ c,D c→c ∉ fz→∀ g cp,κ c=some (g,cp)→¬ Sc g:=fun c hc hn g cp hk hs=>by
  rcases hs with hs | ⟨b',c',hb',hk'⟩
  · obtain ⟨e,he⟩:=zb0.1 ((hDL c).1 hc); have:=hL c e he; rw [hk] at this; exact this.notS hs
  · have:=hinj b' c g c' cp (d2 b' hb') hc hk' hk; subst this; exact hn hb'
 have hbfz:b ∉ fz:=fun hm=>(hfz' b hm).1 rfl
 have hnfz:∀ p∈nbk,p.1 ∉ fz:=fun p hp hm=>(hfz' _ hm).2 p hp rfl
 have hEb:=hL b ent hlb; refine (hcalls w Sc κi vals (by rw [hl,d1]) ?_ ?_ ?_ hinjI).mono ?_
 · intro g hg; rcases hg with h | ⟨b',c,hb',hk⟩
   · exact hS g h
   · obtain ⟨e,he⟩:=zb0.1 ((hDL b').1 (d2 b' hb')); have:=hL b' e he; rw [hk] at this; exact this.lt
 · intro k a x hk hx; by_cases hkk:k=k0
   · subst hkk; have ea:=d3 k a (by omega) hk; subst ea; have hvx:=hv k _ x hk0 hx; obtain ⟨g,c,hd,hkb,rfl⟩:=hvx.loc_inv; exact .loc 1000 z 0 0 g c hDi (hκb.trans hkb)
   · exact d4 Sc κi (Dm ms) (fun g h=>.inl h) (fun b' hb' g c hk'=>.inr ⟨b',c,hb',hk'⟩) k a x (by omega) hk (by simpa using hx)
 · intro k e hk; by_cases hk1:k=1000
   · subst hk1
     have he:e={ ent with es:=[cs'] }:=by simp [look] at hk; exact hk.symm
     subst he; rw [hκb]; refine box_ren hEb hbx hes n1 (hScn b hDb hbfz) (fun j a a' x h1 h2 h3=>n7 S Sc κ κi D (Dm ms) w (fun _ h=>.inl h) (fun p hp=>⟨hDin p hp,hκn p hp⟩) j a a' x h1 h2 h3)
   · have hm:(k,e)∈nms:=by
      rcases za1.1 (zih hk) with h1 | h1
      · injection h1 with h1 _; exact absurd h1 hk1
      · exact h1
     obtain ⟨c,hc,hlc,hb0⟩:=n6 _ hm; rw [hκn _ hc]; exact (hL c e hlc).handed (fun _ h=>.inl h) (hScn c (hDn _ hc) (hnfz _ hc)) (fun hb'=>by rw [hb0] at hb'; cases hb')
 · rintro e w' ⟨x,S1,κ1,rfl,hos,htape,hout,hsz,hblk,hsup,hsnew,hslt,hpar,hmine,hinj1,hents,hres⟩
   unfold dRes at h; split at h
   case isFalse=>cases h
   rename_i hflat
   split at h
   case h_2=>cases h
   rename_i ent1 bck hl1 hbn; split at h
   case h_2=>cases h
   rename_i cs1 hb1 he1; split at h
   case h_2=>cases h
   rename_i cs2 hun; injection h with h; subst h; obtain ⟨b1,b2⟩:=zrN nbk bck hbn; obtain ⟨u1,u2⟩:=zt4 cs1 cs2 hun
   have hD':∀ p∈nbk,Dm ms' p.2:=fun p hp=>by
    have:p.1∈ids bck:=by rw [b1]; exact zbC.2 ⟨p,hp,rfl⟩
    obtain ⟨q,hq1,hq2⟩:=zbC.1 this; obtain ⟨k,hk1,hk2,_⟩:=b2 q hq1; rw [hq2] at hk1; have:=ztW nbk n4 _ _ _ hk1 hp; rw [← this]; show (look ms' k).isSome=true; rw [hk2]; rfl
   have hD1:Dm ms' 1000:=by show (look ms' 1000).isSome=true; rw [hl1]; rfl
   let κ2:Kap:=fun c=>match nbk.find? (fun p=>p.1 == c) with
    | some p=>κ1 p.2
    | none=>κ c
   have k2n:∀ p∈nbk,κ2 p.1=κ1 p.2:=fun p hp=>by
    show (match nbk.find? (fun q=>q.1 == p.1) with | some q=>κ1 q.2 | none=>κ p.1)=_
    cases hf:nbk.find? (fun q=>q.1 == p.1) with
    | none=>exact absurd (List.find?_eq_none.1 hf p hp) (by simp)
    | some q =>
      have hq1:=zoA hf; have hq2:q.1=p.1:=by simpa using zoB hf
      have:q.2=p.2:=ztW nbk n4 p.1 q.2 p.2 (by rw [← hq2]; exact hq1) hp; show κ1 q.2=κ1 p.2; rw [this]
   have k2o:∀ c,c ∉ nbk.map (·.1)→κ2 c=κ c:=fun c hc=>by
    show (match nbk.find? (fun q=>q.1 == c) with | some q=>κ1 q.2 | none=>κ c)=_
    cases hf:nbk.find? (fun q=>q.1 == c) with
    | none=>rfl
    | some q =>
      have hq1:=zoA hf; have hq2:q.1=c:=by simpa using zoB hf
      exact absurd (zbC.2 ⟨q,hq1,hq2⟩) hc
   have hbn':b ∉ nbk.map (·.1):=fun hm=>by obtain ⟨p,hp,e⟩:=zbC.1 hm; exact hnb' p hp e
   have hidset:∀ c,c∈ids ((b,({ ent1 with es:=[cs2] }:Ent)) :: bck)↔c=b∨c∈nbk.map (·.1):=fun c=>by rw [← b1]; simp [ids]
   have hMine:∀ g,Mine w κi (Dm ms) g→w.heap.size≤g∨∃ c cp,c∈nbk.map (·.1)∧D c∧κ c=some (g,cp):=by
    rintro g (h | ⟨k,cp,hk1,hk2,hk3⟩)
    · exact .inl h
    · rcases hms k hk2 with ⟨rfl,-⟩ | ⟨c,hc⟩
      · omega
      · rw [hκn _ hc] at hk3; exact .inr ⟨c,cp,zbC.2 ⟨_,hc,rfl⟩,hDn _ hc,hk3⟩
   let r':Res:={ val:=rv,set:=(b,{ ent1 with es:=[cs2] }) :: bck,frz:=fz,re:=nbk.map (·.1) }
   have hset1:∀ c,c=b∨c∈nbk.map (·.1)→D1 D r' c:=fun c hc=>.inr ((hidset c).2 hc)
   have hrel:CRel S1 w' rv x:=by
    cases rv with
    | new z e es=>simp [AV.flat] at hflat
    | newp z e cs=>simp [AV.flat] at hflat
    | newm e es=>simp [AV.flat] at hflat
    | row b z off n=>simp [AV.flat] at hflat
    | loc b z i o=>simp [AV.flat] at hflat
    | _=>exact hres
   refine ⟨x,S1,κ2,rfl,{
    os:=hos
    tape:=htape
    output:=hout
    size:=hsz
    blk:=fun g hg hbb=>hblk g hg (fun k cp hk hkk=>by
     obtain ⟨c,hc,e1,e2,_⟩:=back k hk; rw [e1] at hkk
     refine hbb c cp (.inl ((hidset c).2 (e2.imp id (fun q=>zbC.2 ⟨_,q,rfl⟩)))) hc hkk)
    sup:=fun g hg=>hsup g (.inl hg)
    snew:=fun g hg=>by
     rcases hsnew g hg with h | h
     · rcases h with h | ⟨b',c,hb',hk⟩
       · exact .inl h
       · exact .inr (.inr ⟨b',c,.inl hb',d2 b' hb',hk⟩)
     · rcases hMine g h with h | ⟨c,cp,q1,q2,q3⟩
       · exact .inr (.inl h)
       · exact .inr (.inr ⟨c,cp,.inr (.inr q1),q2,q3⟩)
    slt:=hslt
    sfrz:=fun b' hb' g c hk=>hsup g (.inr ⟨b',c,hb',hk⟩)
    kold:=fun c _ hn=>k2o c hn
    kout:=fun c hn=>k2o c (fun hm=>hn ((hidset c).2 (.inr hm)))
    knew:=fun c hnew hin g cp hk=>by
     have hm:c∈nbk.map (·.1):=by
      rcases (hidset c).1 hin with rfl | hm
      · exact hnew hDb
      · exact hm
     obtain ⟨p,hp,rfl⟩:=zbC.1 hm; rw [k2n p hp] at hk; rcases hMine g (hmine p.2 g cp (by have:=(n3 p hp).2.1; omega) (hD' p hp) hk) with h | ⟨c,cp,q1,q2,q3⟩
     · exact .inl h
     · exact .inr ⟨c,cp,.inr q1,q2,q3⟩
    one:=fun c c' h1 h2 i1 i2 g cp cp' e1 e2=>by
     have m1:c∈nbk.map (·.1):=by
      rcases (hidset c).1 i1 with rfl | hm
      · exact h1 hDb
      · exact hm
     have m2:c'∈nbk.map (·.1):=by
      rcases (hidset c').1 i2 with rfl | hm
      · exact h2 hDb
      · exact hm
     obtain ⟨p,hp,rfl⟩:=zbC.1 m1; obtain ⟨p',hp',rfl⟩:=zbC.1 m2; rw [k2n p hp] at e1; rw [k2n p' hp'] at e2; have:=hinj1 _ _ g cp cp' (hD' p hp) (hD' p' hp') e1 e2; exact pair_inj2 nbk n5 p.1 p'.1 p.2 hp (by rw [this]; exact hp')
    res:=fun c hc=>(hidset c).2 (.inr hc)
    ents:=fun c e hm=>by
     rcases za1.1 hm with hm | hm
     · injection hm with hm1 hm2; subst hm1; subst hm2; obtain ⟨_,hE⟩:=hents 1000 ent1 hl1; rw [k2o c hbn',← hκb,← hpar 1000 (zbR _)]; refine box_ren hE hb1 he1 u1 (fun g cp hk=>by rw [hk] at hE; exact hE.notS) (fun j a a' y q1 q2 q3=>u2 S1 κ1 κ2 (Dm ms') (D1 D r') w' (fun p hp=>⟨hset1 p.1 (.inr (zbC.2 ⟨p,hp,rfl⟩)),k2n p hp⟩) j a a' y q1 q2 q3)
     · obtain ⟨q,hq1,hq2,hq3⟩:=b2 _ hm; obtain ⟨_,hE⟩:=hents q e hq2; rw [k2n (c,q) hq1]; exact hE.handed (fun _ h=>h) (fun g cp hk=>by rw [hk] at hE; exact hE.notS) (fun hb'=>by simp only at hq3; rw [hq3] at hb'; cases hb')
    val:=.c hrel },?_⟩
   intro c hc; refine ⟨d2 c hc,fun hm=>?_,by simp⟩; rcases (hidset c).1 hm with rfl | hm
   · exact hbfz hc
   · obtain ⟨p,hp,rfl⟩:=zbC.1 hm; exact hnfz p hp hc
end
end Go.Ab
end
