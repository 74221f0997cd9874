/- Operations on maps. -/
import Derived.Test.YtbhkcgaanaelfaaGreatAbEq
import Derived.MapKept
import Derived.WideKeyRuns
namespace Go.Ab
open Go.RowKit
def First (P:Program) (t:TypeId) (k:AV) (es:List (List AV)):Option Nat→Prop
 | none=>∀ cs∈es,∃ ka va,cs=[ka,va]∧keyEq P t k ka=some false
 | some j=>(∃ ka va,es[j]?=some [ka,va]∧keyEq P t k ka=some true)∧∀ i < j,∃ ka va,es[i]?=some [ka,va]∧keyEq P t k ka=some false
section
variable {P:Program} {t:TypeId} {k:AV}
theorem First.nil:First P t k [] none:=fun cs h=>by cases h
theorem First.cons {ka va:AV} {es:List (List AV)} {o:Option Nat} (he:keyEq P t k ka=some false) (h:First P t k es o):First P t k ([ka,va] :: es) (o.map (·+1)):=by
 cases o with
 | none =>
   intro cs hcs
   rcases List.mem_cons.1 hcs with rfl | hcs
   · exact ⟨ka,va,rfl,he⟩
   · exact h cs hcs
 | some j =>
   obtain ⟨⟨k1,v1,h1,h2⟩,h3⟩:=h
   refine ⟨⟨k1,v1,by simpa using h1,h2⟩,fun i hi=>?_⟩
   cases i with
   | zero=>exact ⟨ka,va,rfl,he⟩
   | succ i=>simpa using h3 i (by simp at hi; omega)
theorem First.head {ka va:AV} {es:List (List AV)} (he:keyEq P t k ka=some true):First P t k ([ka,va] :: es) (some 0):=
 ⟨⟨ka,va,rfl,he⟩,fun i hi=>by omega⟩
theorem zpr:∀ {es:List (List AV)} {o:Option AV},mlook P t k es=some o→(o=none∧First P t k es none)∨∃ j ka va,o=some va∧es[j]?=some [ka,va]∧First P t k es (some j)
 | [],o,h=>by
   simp only [mlook,Option.some.injEq] at h
   exact .inl ⟨h.symm,.nil⟩
 | [ka,va] :: r,o,h=>by
   simp only [mlook] at h
   split at h
   · rename_i he
     simp only [Option.some.injEq] at h
     exact .inr ⟨0,ka,va,h.symm,rfl,.head he⟩
   · rename_i he
     rcases zpr h with ⟨h1,h2⟩ | ⟨j,k1,v1,h1,h2,h3⟩
     · exact .inl ⟨h1,h2.cons he⟩
     · exact .inr ⟨j+1,k1,v1,h1,by simpa using h2,h3.cons he⟩
   · cases h
 | [] :: r,o,h=>by simp [mlook] at h
 | [_] :: r,o,h=>by simp [mlook] at h
 | (_ :: _ :: _ :: _) :: r,o,h=>by simp [mlook] at h
theorem zvt {v:AV}:∀ {es es':List (List AV)},mset P t k v es=some es'→(First P t k es none∧es'=es++[[k,v]])∨∃ j,First P t k es (some j)∧es'=es.set j [k,v]
 | [],es',h=>by
   simp only [mset,Option.some.injEq] at h
   exact .inl ⟨.nil,h.symm⟩
 | [ka,va] :: r,es',h=>by
   simp only [mset] at h
   split at h
   · rename_i he
     simp only [Option.some.injEq] at h
     exact .inr ⟨0,.head he,h.symm⟩
   · rename_i he
     split at h
     · rename_i l hl
       simp only [Option.some.injEq] at h
       rcases zvt hl with ⟨h1,h2⟩ | ⟨j,h1,h2⟩
       · exact .inl ⟨h1.cons he,by rw [← h,h2]; rfl⟩
       · exact .inr ⟨j+1,h1.cons he,by rw [← h,h2]; rfl⟩
     · cases h
   · cases h
 | [] :: r,o,h=>by simp [mset] at h
 | [_] :: r,o,h=>by simp [mset] at h
 | (_ :: _ :: _ :: _) :: r,o,h=>by simp [mset] at h
theorem zvh:∀ {es es':List (List AV)},mdel P t k es=some es'→(First P t k es none∧es'=es)∨∃ j,First P t k es (some j)∧es'=es.eraseIdx j
 | [],es',h=>by
   simp only [mdel,Option.some.injEq] at h
   exact .inl ⟨.nil,h.symm⟩
 | [ka,va] :: r,es',h=>by
   simp only [mdel] at h
   split at h
   · rename_i he
     simp only [Option.some.injEq] at h
     exact .inr ⟨0,.head he,by rw [← h]; rfl⟩
   · rename_i he
     split at h
     · rename_i l hl
       simp only [Option.some.injEq] at h
       rcases zvh hl with ⟨h1,h2⟩ | ⟨j,h1,h2⟩
       · exact .inl ⟨h1.cons he,by rw [← h,h2]⟩
       · exact .inr ⟨j+1,h1.cons he,by rw [← h,h2]; rfl⟩
     · cases h
   · cases h
 | [] :: r,o,h=>by simp [mdel] at h
 | [_] :: r,o,h=>by simp [mdel] at h
 | (_ :: _ :: _ :: _) :: r,o,h=>by simp [mdel] at h
end
theorem bitsB_same {x y:Value} (n:Nat) (h:bitsB x y=some true):Instr.sameBits n x y=true:=by
 unfold bitsB at h
 split at h
 · split at h
   · rename_i hk; subst hk; simp only [Option.some.injEq] at h; cases n <;> simpa [Instr.sameBits] using h
   · cases h
 · simp only [Option.some.injEq] at h; cases n <;> simpa [Instr.sameBits] using h
 · simp only [Option.some.injEq] at h; cases n <;> simpa [Instr.sameBits] using h
 · cases h
theorem ztJ (n:Nat):∀ {xs ys:List Value},bitsL xs ys=some true→xs.length=ys.length∧(xs.zip ys).all (fun (x,y)=>Instr.sameBits n x y)=true
 | [],[],_=>⟨rfl,rfl⟩
 | x :: r,y :: s,h=>by
   simp only [bitsL] at h
   obtain ⟨a,b,ha,hb,hab⟩:=zmR h
   have h1:a=true:=by cases a <;> simp at hab ⊢
   have h2:b=true:=by cases b <;> simp [h1] at hab ⊢
   subst h1; subst h2
   obtain ⟨i1,i2⟩:=ztJ n hb
   refine ⟨by simp [i1],?_⟩
   rw [List.zip_cons_cons,List.all_cons]
   rw [Bool.and_eq_true]
   exact ⟨bitsB_same n ha,i2⟩
 | [],_ :: _,h=>by simp [bitsL] at h
 | _ :: _,[],h=>by simp [bitsL] at h
theorem zw6 {td:TypeDesc} {x y:Value} (n:Nat) (h:Instr.sameNow td x y=some true):Instr.sameBits n x y=true:=by
 unfold Instr.sameNow at h
 split at h
 · split at h
   · rename_i hk; subst hk; simp only [Option.some.injEq] at h; cases n <;> simpa [Instr.sameBits] using h
   · cases h
 · simp only [Option.some.injEq] at h; cases n <;> simpa [Instr.sameBits] using h
 · simp only [Option.some.injEq] at h; cases n <;> simpa [Instr.sameBits] using h
 · cases h
section
variable {P:Program} {S:Nat→Prop} {κ:Kap} {D:Nat→Prop} {w:World}
theorem scalT_agg {t:TypeId} (h:scalT P t=true):isAggB P t=some false:=by
 unfold scalT at h
 split at h
 · rename_i hu; exact zf3 hu
 · rename_i hu; exact zf3 hu
 · rename_i hu; exact zf3 hu
 · cases h
theorem zmr {t:TypeId} (h:scalT P t=true) (em:Bool) (n:Nat) (x:Value) (w:World):(Instr.checkKey em (n+1) t x).run P w=.ok () w:=by
 unfold scalT at h
 split at h
 · rename_i hu; simp [Instr.checkKey,run_underlying hu]
 · rename_i hu; simp [Instr.checkKey,run_underlying hu]
 · rename_i hu; simp [Instr.checkKey,run_underlying hu]
 · cases h
theorem zu7 {t:TypeId} (h:scalT P t=true) {arr:Array Value} {off:Nat} (ho:off < arr.size) (w:World):(part t arr off).run P w=.ok arr[off] w:=by
 simp only [part,Sem.run_bind,zjf (scalT_agg h),Result.andThen_ok,Bool.false_eq_true,if_false,Array.getElem?_eq_getElem ho,Sem.run_pure]
theorem keyAV_val {t:TypeId} {k:AV} {x:Value} (h:keyAV P t k=true) (hr:VRel S κ D w k x):CRel S w k x:=by
 unfold keyAV at h
 split at h
 · rw [hr.v_inv]; exact .v _
 · rename_i cs
   split at h
   · rename_i xs fs hm hu
     obtain ⟨vs,rfl,hl,h1,hp⟩:=hr.agg_inv
     refine .agg cs vs hl h1 (fun j c x hc hx=>?_)
     obtain ⟨_,h2⟩:=zhI hm
     obtain ⟨b,_,hb⟩:=h2 j c hc
     have:=zpV hb (hp j c x hc hx)
     cases c <;> simp [AV.scal] at hb
     subst hb; rw [this]; exact .v _
   · rename_i xs n e hm hu
     obtain ⟨vs,rfl,hl,h1,hp⟩:=hr.agg_inv
     refine .agg cs vs hl h1 (fun j c x hc hx=>?_)
     obtain ⟨_,h2⟩:=zhI hm
     obtain ⟨b,_,hb⟩:=h2 j c hc
     have:=zpV hb (hp j c x hc hx)
     cases c <;> simp [AV.scal] at hb
     subst hb; rw [this]; exact .v _
   · cases h
 · cases h
theorem zoo {t:TypeId} {k:AV} {x:Value} (h:keyAV P t k=true) (hr:VRel S κ D w k x) (em:Bool) (w':World):(Instr.checkKey em 10000 t x).run P w'=.ok () w':=by
 unfold keyAV at h
 split at h
 · simp only [Bool.and_eq_true] at h
   exact zmr h.1 em 9999 x w'
 · rename_i cs
   split at h
   · rename_i xs fs hm hu
     simp only [Bool.and_eq_true,List.all_eq_true,decide_eq_true_eq] at h
     have ex:=zio hm hr
     subst ex
     have key:∀ (l:List Field),(∀ f∈l,scalT P f.type=true∧f.offset < xs.length)→∀ w':World,
       (forIn (m:=Sem) l PUnit.unit (fun f _=>do
        if f.name ≠ "_" then Instr.checkKey em 9999 f.type (← part f.type xs.toArray f.offset)
        pure (ForInStep.yield PUnit.unit))).run P w'=.ok PUnit.unit w':=by
      intro l
      induction l with
      | nil=>intro _ w'; simp
      | cons f l ih =>
        intro hf w'
        obtain ⟨f1,f2⟩:=hf f (by simp)
        have ihl:=ih (fun g hg=>hf g (by simp [hg])) w'
        rw [List.forIn_cons]
        by_cases hn:f.name = "_"
        · simp only [hn,ne_eq,not_true_eq_false,if_false,Sem.run_bind,Sem.run_pure,Result.andThen_ok]
          exact ihl
        · simp only [hn,ne_eq,not_false_eq_true,if_true,Sem.run_bind,zu7 f1 (arr:=xs.toArray) (by simpa using f2) w',Result.andThen_ok,zmr f1 em 9998,Sem.run_pure]
          exact ihl
     have:=key fs.toList h.2 w'
     rw [show (10000:Nat)=9999+1 from rfl,Instr.checkKey]
     simp only [Sem.run_bind,run_underlying hu,Result.andThen_ok]
     simp at this ⊢
     rw [this]
     simp
   · rename_i xs n e hm hu
     simp only [Bool.and_eq_true,decide_eq_true_eq,beq_iff_eq] at h
     obtain ⟨h1,h2,h3,h4⟩:=h
     have ex:=zio hm hr
     subst ex
     have key:∀ (l:List Nat),(∀ i∈l,i < xs.length)→∀ w':World,
       (forIn (m:=Sem) l PUnit.unit (fun i _=>do
        Instr.checkKey em 9999 e (← part e xs.toArray (i*(← sizeOf e)))
        pure (ForInStep.yield PUnit.unit))).run P w'=.ok PUnit.unit w':=by
      intro l
      induction l with
      | nil=>intro _ w'; simp
      | cons i l ih =>
        intro hf w'
        have f2:=hf i (by simp)
        have ihl:=ih (fun g hg=>hf g (by simp [hg])) w'
        rw [List.forIn_cons]
        simp only [Sem.run_bind,zbs h3,Result.andThen_ok,Nat.mul_one,zu7 h2 (arr:=xs.toArray) (by simpa using f2) w',zmr h2 em 9998,Sem.run_pure]
        exact ihl
     have:=key (List.range' 0 n) (fun i hi=>by simp [List.mem_range'] at hi; omega) w'
     rw [show (10000:Nat)=9999+1 from rfl,Instr.checkKey]
     simp only [Sem.run_bind,run_underlying hu,Result.andThen_ok]
     simp only [Std.Legacy.Range.forIn_eq_forIn_range',Std.Legacy.Range.size,Nat.sub_zero,Nat.add_one_sub_one,Nat.div_one]
     simp at this ⊢
     rw [this]
     simp
   · cases h
 · cases h
theorem zlT {t:TypeId} {k:AV} {x:Value} {es:List (List AV)} {en:List MapEntry} {o:Option Nat} (hF:First P t k es o) (hr:VRel S κ D w k x) (hlen:en.length=es.length)
  (hk:∀ (i:Nat) (ka va:AV) (e:MapEntry),es[i]?=some [ka,va]→en[i]?=some e→CRel S w ka e.key) (hkey:keyAV P t k=true) (w':World) :
  ∃ q:Option (Nat×Value),(Instr.findKey t x en).run P w'=.ok q w' ∧
    (match o with
     | none=>q=none
     | some j=>∃ e,en[j]?=some e∧q=some (j,e.val)∧Instr.sameBits 10000 e.key x=true):=by
 unfold keyAV at hkey
 split at hkey
 · rename_i y
   have hx:=hr.v_inv
   subst hx
   simp only [Bool.and_eq_true] at hkey
   obtain ⟨td,hu⟩:∃ td,P.underlying t=some td:=by
    have:=hkey.1
    unfold scalT at this
    cases hq:P.underlying t with
    | none=>simp [hq] at this
    | some td=>exact ⟨td,rfl⟩
   have hne:∀ ka:AV,∀ r,keyEq P t (.v x) ka=some r→∃ z,ka=.v z∧Instr.sameNow td x z=some r:=by
    intro ka r h
    cases ka <;> simp [keyEq,hu] at h
    exact ⟨_,rfl,h⟩
   have sym:∀ {td:TypeDesc} {a b:Value},Instr.sameNow td a b=some true→Instr.sameBits 10000 b a=true:=by
    intro td a b h
    refine zw6 10000 (td:=td) ?_
    unfold Instr.sameNow at h ⊢
    split at h
    · split at h
      · rename_i hk; subst hk; simp only [Option.some.injEq,beq_iff_eq] at h; subst h; simp
      · cases h
    · simp only [Option.some.injEq] at h; simp [MapKept.bytes_beq] at h ⊢; rw [h]
    · simp only [Option.some.injEq,beq_iff_eq] at h; subst h; simp
    · cases h
   have main:∀ (es:List (List AV)) (en:List MapEntry) (o:Option Nat) (s:Nat),First P t (.v x) es o→en.length=es.length →
     (∀ (i:Nat) (ka va:AV) (e:MapEntry),es[i]?=some [ka,va]→en[i]?=some e→CRel S w ka e.key) →
     ∃ q,Instr.findNow td x en s=some q∧(match o with
       | none=>q=none
       | some j=>∃ e,en[j]?=some e∧q=some (s+j,e.val)∧Instr.sameBits 10000 e.key x=true):=by
    intro es
    induction es with
    | nil =>
      intro en o s hF hl _
      have:en=[]:=List.length_eq_zero_iff.1 (by simpa using hl)
      subst this
      cases o with
      | none=>exact ⟨none,rfl,rfl⟩
      | some j=>obtain ⟨⟨ka,va,h,_⟩,_⟩:=hF; simp at h
    | cons cs es ih =>
      intro en o s hF hl hk
      cases en with
      | nil=>simp at hl
      | cons e en =>
        have hk':∀ (i:Nat) (ka va:AV) (e:MapEntry),es[i]?=some [ka,va]→en[i]?=some e→CRel S w ka e.key:=fun i ka va e h1 h2=>hk (i+1) ka va e (by simpa using h1) (by simpa using h2)
        cases o with
        | none =>
          obtain ⟨ka,va,rfl,he⟩:=hF cs (by simp)
          obtain ⟨z,rfl,hz⟩:=hne ka false he
          have hc:=hk 0 _ va e rfl rfl
          cases hc
          obtain ⟨q,h1,h2⟩:=ih en none (s+1) (fun c hc=>hF c (by simp [hc])) (by simpa using hl) hk'
          exact ⟨q,by simp only [Instr.findNow,hz]; exact h1,h2⟩
        | some j =>
          cases j with
          | zero =>
            obtain ⟨⟨ka,va,h1,he⟩,_⟩:=hF
            simp only [List.getElem?_cons_zero,Option.some.injEq] at h1
            subst h1
            obtain ⟨z,rfl,hz⟩:=hne ka true he
            have hc:=hk 0 _ va e rfl rfl
            cases hc
            exact ⟨some (s,e.val),by simp only [Instr.findNow,hz],e,rfl,rfl,sym hz⟩
          | succ j =>
            obtain ⟨⟨ka,va,h1,he⟩,h3⟩:=hF
            obtain ⟨k0,v0,g1,g2⟩:=h3 0 (by omega)
            simp only [List.getElem?_cons_zero,Option.some.injEq] at g1
            subst g1
            obtain ⟨z,rfl,hz⟩:=hne k0 false g2
            have hc:=hk 0 _ v0 e rfl rfl
            cases hc
            obtain ⟨q,h1',h2'⟩:=ih en (some j) (s+1) ⟨⟨ka,va,by simpa using h1,he⟩,fun i hi=>by simpa using h3 (i+1) (by omega)⟩ (by simpa using hl) hk'
            refine ⟨q,by simp only [Instr.findNow,hz]; exact h1',?_⟩
            obtain ⟨e',q1,q2,q3⟩:=h2'
            exact ⟨e',by simpa using q1,by rw [q2]; congr 2; omega,q3⟩
   obtain ⟨q,h1,h2⟩:=main es en o 0 hF hlen hk
   refine ⟨q,MapKept.run_findKey hu h1,?_⟩
   cases o with
   | none=>exact h2
   | some j =>
     obtain ⟨e,q1,q2,q3⟩:=h2
     exact ⟨e,q1,by rw [q2,Nat.zero_add],q3⟩
 · rename_i cs
   have hwide:(match P.underlying t with | some (.array _ _) | some (.struct _)=>true | _=>false)=true∧∃ xs,mapO AV.scal cs=some xs:=by
    split at hkey
    · rename_i xs fs hm hu; rw [hu]; exact ⟨rfl,xs,hm⟩
    · rename_i xs n e hm hu; rw [hu]; exact ⟨rfl,xs,hm⟩
    · cases hkey
   obtain ⟨hwide,xs,hm⟩:=hwide
   have ex:=zio hm hr
   subst ex
   have hne:∀ ka:AV,∀ r,keyEq P t (.agg cs) ka=some r→∃ ds ys,ka=.agg ds∧mapO AV.scal ds=some ys∧isAggB P t=some true∧eqV P 20 t xs ys=some r∧bitsL xs ys=some r:=by
    intro ka r h
    cases ka <;> simp only [keyEq,hm] at h <;> try (cases h; done)
    rename_i ds
    cases hd:mapO AV.scal ds with
    | none=>simp [hd] at h
    | some ys =>
      simp only [hd] at h
      split at h
      · rename_i ha
        refine ⟨ds,ys,rfl,hd,ha,?_⟩
        unfold agree at h
        split at h
        · rename_i a b h1 h2
          split at h
          · rename_i hab
            simp only [Option.some.injEq] at h
            subst h; subst hab
            exact ⟨h1,h2⟩
          · cases h
        · cases h
      · cases h
   have run1:∀ (ka:AV) (r:Bool) (y:Value) (w':World),keyEq P t (.agg cs) ka=some r→CRel S w ka y→(Op.equal t (.agg xs.toArray) y).run P w'=.ok r w'∧(r=true→Instr.sameBits 10000 y (.agg xs.toArray)=true):=by
    intro ka r y w' he hc
    obtain ⟨ds,ys,rfl,hd,ha,h1,h2⟩:=hne ka r he
    have ey:=zio (κ:=κ) (D:=D) hd (.c hc)
    subst ey
    refine ⟨?_,fun hr=>?_⟩
    · have:=zq7 (P:=P) 20 t xs ys r h1 9980 _ _ w' (.inl ⟨ha,rfl⟩) (.inl ⟨ha,rfl⟩)
      rw [show (9980+20:Nat)=Op.maxDepth from rfl] at this
      exact this
    · subst hr
      have hsym:bitsL ys xs=some true:=by
       clear h1 hd ha hm he hr hc hkey hF hk hlen hne
       induction xs generalizing ys with
       | nil=>cases ys with
         | nil=>rfl
         | cons _ _=>simp [bitsL] at h2
       | cons a xs ih=>cases ys with
         | nil=>simp [bitsL] at h2
         | cons b ys =>
           simp only [bitsL] at h2 ⊢
           obtain ⟨p,q,hp,hq,hpq⟩:=zmR h2
           have h1:p=true:=by cases p <;> simp at hpq ⊢
           have h2':q=true:=by cases q <;> simp [h1] at hpq ⊢
           subst h1; subst h2'
           rw [ih ys hq]
           have:bitsB b a=some true:=by
            unfold bitsB at hp ⊢
            split at hp
            · split at hp
              · rename_i hk; subst hk; simp only [Option.some.injEq,beq_iff_eq] at hp; subst hp; simp
              · cases hp
            · simp only [Option.some.injEq] at hp; simp [MapKept.bytes_beq] at hp ⊢; rw [hp]
            · simp only [Option.some.injEq,beq_iff_eq] at hp; subst hp; simp
            · cases hp
           rw [this]; rfl
      obtain ⟨e1,e2⟩:=ztJ 9999 hsym
      show Instr.sameBits (9999+1) _ _=true
      simp only [Instr.sameBits,Bool.and_eq_true]
      exact ⟨by simpa using e1,by simpa using e2⟩
   have main:∀ (es:List (List AV)) (en:List MapEntry) (o:Option Nat) (s:Nat),First P t (.agg cs) es o→en.length=es.length →
     (∀ (i:Nat) (ka va:AV) (e:MapEntry),es[i]?=some [ka,va]→en[i]?=some e→CRel S w ka e.key) →
     ∃ q,(Instr.findAsking t (.agg xs.toArray) en s).run P w'=.ok q w'∧(match o with
       | none=>q=none
       | some j=>∃ e,en[j]?=some e∧q=some (s+j,e.val)∧Instr.sameBits 10000 e.key (.agg xs.toArray)=true):=by
    intro es
    induction es with
    | nil =>
      intro en o s hF hl _
      have:en=[]:=List.length_eq_zero_iff.1 (by simpa using hl)
      subst this
      cases o with
      | none=>exact ⟨none,by simp [Instr.findAsking],rfl⟩
      | some j=>obtain ⟨⟨ka,va,h,_⟩,_⟩:=hF; simp at h
    | cons c0 es ih =>
      intro en o s hF hl hk
      cases en with
      | nil=>simp at hl
      | cons e en =>
        have hk':∀ (i:Nat) (ka va:AV) (e:MapEntry),es[i]?=some [ka,va]→en[i]?=some e→CRel S w ka e.key:=fun i ka va e h1 h2=>hk (i+1) ka va e (by simpa using h1) (by simpa using h2)
        cases o with
        | none =>
          obtain ⟨ka,va,rfl,he⟩:=hF c0 (by simp)
          obtain ⟨r1,_⟩:=run1 ka false e.key w' he (hk 0 _ va e rfl rfl)
          obtain ⟨q,h1,h2⟩:=ih en none (s+1) (fun c hc=>hF c (by simp [hc])) (by simpa using hl) hk'
          exact ⟨q,by simp only [Instr.findAsking,Sem.run_bind,r1,Result.andThen_ok,Bool.false_eq_true,if_false]; exact h1,h2⟩
        | some j =>
          cases j with
          | zero =>
            obtain ⟨⟨ka,va,h1,he⟩,_⟩:=hF
            simp only [List.getElem?_cons_zero,Option.some.injEq] at h1
            subst h1
            obtain ⟨r1,r2⟩:=run1 ka true e.key w' he (hk 0 _ va e rfl rfl)
            exact ⟨some (s,e.val),by simp only [Instr.findAsking,Sem.run_bind,r1,Result.andThen_ok,if_true,Sem.run_pure],e,rfl,rfl,r2 rfl⟩
          | succ j =>
            obtain ⟨⟨ka,va,h1,he⟩,h3⟩:=hF
            obtain ⟨k0,v0,g1,g2⟩:=h3 0 (by omega)
            simp only [List.getElem?_cons_zero,Option.some.injEq] at g1
            subst g1
            obtain ⟨r1,_⟩:=run1 k0 false e.key w' g2 (hk 0 _ v0 e rfl rfl)
            obtain ⟨q,h1',h2'⟩:=ih en (some j) (s+1) ⟨⟨ka,va,by simpa using h1,he⟩,fun i hi=>by simpa using h3 (i+1) (by omega)⟩ (by simpa using hl) hk'
            refine ⟨q,by simp only [Instr.findAsking,Sem.run_bind,r1,Result.andThen_ok,Bool.false_eq_true,if_false]; exact h1',?_⟩
            obtain ⟨e',q1,q2,q3⟩:=h2'
            exact ⟨e',by simpa using q1,by rw [q2]; congr 2; omega,q3⟩
   obtain ⟨q,h1,h2⟩:=main es en o 0 hF hlen hk
   refine ⟨q,?_,?_⟩
   · rw [run_findKey_eq w' hwide]; exact h1
   cases o with
   | none=>exact h2
   | some j =>
     obtain ⟨e,q1,q2,q3⟩:=h2
     exact ⟨e,q1,by rw [q2,Nat.zero_add],q3⟩
 · cases hkey
theorem zyt {t:TypeId} {a:AV} (h:zeroA P t=some a) (w:World):∃ z,(zeroValue t).run P w=.ok z w∧CRel S w a z:=by
 unfold zeroA at h
 cases hi:P.info? t with
 | none=>simp [hi] at h
 | some i =>
   cases hz:i.zero with
   | none=>simp [hi,hz] at h
   | some z =>
     simp only [hi,Option.bind_some,hz] at h
     refine ⟨z,zfC hi hz,?_⟩
     have nrmC:∀ {a:AV} {x:Value},CRel S w a x→CRel S w (nrm P t a) x:=by
      intro a x hr
      unfold nrm
      split
      · rename_i cs
        cases hr with
        | agg _ vs hl h1 hp =>
          refine .agg _ vs (by rw [zit]; exact hl) h1 (fun j c x hj hx=>?_)
          obtain ⟨a,ha,hc⟩:=znE P _ _ j c hj
          rcases hc with rfl | ⟨t',rfl⟩
          · exact hp j _ x ha hx
          · exact zn0 (hp j _ x ha hx)
      · exact zn0 hr
     split at h
     · rename_i cs heq
       simp only [Option.some.injEq] at heq
       subst heq
       split at h
       · rename_i h1
         simp only [Option.some.injEq] at h
         subst h
         obtain ⟨c1,c2,c3⟩:=zhT (z:=.agg cs) (S:=S) (w:=w) h1
         exact nrmC (.agg _ _ c1 c2 c3)
       · cases h
     · rename_i x hne heq
       simp only [Option.some.injEq] at heq
       subst heq
       split at h
       · simp only [Option.some.injEq] at h
         subst h
         exact nrmC (.v _)
       · cases h
     · rename_i heq; cases heq
theorem zu0 {L:Nat→Option Ent} {m:AV} {x:Value} {es:List (List AV)} (h:mesOf L m=some es) (hx:VRel S κ D w m x) (hL:∀ b ent,L b=some ent→EntAt S κ D w (κ b) ent) :
  (x=.map none∧es=[])∨∃ g en clock,x=.map (some g)∧w.heap[g]?=some (.map en clock)∧en.size=es.length∧(∀ cs∈es,∃ k v,cs=[k,v]) ∧
   ∀ (i:Nat) (k v:AV) (e:MapEntry),es[i]?=some [k,v]→en[i]?=some e→CRel S w k e.key∧CRel S w v e.val:=by
 unfold mesOf at h
 split at h
 · simp only [Option.some.injEq] at h
   exact .inl ⟨hx.v_inv,h.symm⟩
 · simp only [Option.some.injEq] at h
   subst h
   have:=hx.mp_inv
   cases this with
   | mp _ g en clock hS hg hl hb hi h2 hk hv=>exact .inr ⟨g,en,clock,rfl,hg,hl,h2,fun i k v e h1 h2=>⟨hk i k v e h1 h2,hv i k v e h1 h2⟩⟩
 · rename_i b
   split at h
   case h_2=>cases h
   rename_i ent hl
   split at h
   case isFalse=>cases h
   rename_i hz
   simp only [Option.some.injEq] at h
   subst h
   obtain ⟨g,c,hd,hk,rfl⟩:=hx.map_inv
   obtain ⟨g',c',en,clock,hk',hn,hg,hlen,h1,h2,h3,h4⟩:=(hL b ent hl).2 (zoH hz.1 hz.2)
   rw [hk] at hk'
   simp only [Option.some.injEq,Prod.mk.injEq] at hk'
   obtain ⟨rfl,rfl⟩:=hk'
   exact .inr ⟨g,en,clock,rfl,hg,hlen,h3,h4⟩
 · cases h
theorem mres_rel {ok b:Bool} {a:AV} {x:Value} (h:CRel S w a x):VRel S κ D w (mres ok a b) (if ok then .tuple #[x,.bool b] else x):=by
 unfold mres
 cases ok with
 | false=>exact .c h
 | true =>
   refine .c (.tup _ _ rfl (fun j c y hj hy=>?_))
   match j with
   | 0=>simp at hj hy; subst hj; subst hy; exact h
   | 1=>simp at hj hy; subst hj; subst hy; exact .v _
   | j+2=>simp at hj
theorem zxW {L:Nat→Option Ent} {t:TypeId} {m k:AV} {ok:Bool} {r:Res} {vm vk:Value} (h:aMLook P L t m k ok=some r) (hm:VRel S κ D w m vm) (hk:VRel S κ D w k vk)
  (hL:∀ b ent,L b=some ent→EntAt S κ D w (κ b) ent):∃ y,(Instr.lookup t vm vk ok).run P w=.ok y w∧VRel S κ D w r.val y∧r.set=[]∧r.kill=none∧r.frz=[]:=by
 unfold aMLook at h
 split at h
 case h_2=>cases h
 rename_i kt et hu
 split at h
 case h_2=>cases h
 rename_i es z hes hz
 split at h
 case isFalse=>cases h
 rename_i hkey
 obtain ⟨zv,hz1,hz2⟩:=zyt (S:=S) hz w
 obtain ⟨en,hen,hrel⟩:∃ en:Array MapEntry,(vm=.map none∧en=#[]∨∃ g clock,vm=.map (some g)∧w.heap[g]?=some (.map en clock))∧en.size=es.length ∧
   ∀ (i:Nat) (k v:AV) (e:MapEntry),es[i]?=some [k,v]→en[i]?=some e→CRel S w k e.key∧CRel S w v e.val:=by
  rcases zu0 hes hm hL with ⟨rfl,rfl⟩ | ⟨g,en,clock,rfl,hg,hl,_,h4⟩
  · exact ⟨#[],.inl ⟨rfl,rfl⟩,rfl,fun i k v e h1=>by simp at h1⟩
  · exact ⟨en,.inr ⟨g,clock,rfl,hg⟩,hl,h4⟩
 have hlook:∀ q,(Instr.findKey kt vk en.toList).run P w=.ok q w→(Instr.lookup t vm vk ok).run P w=.ok (match q with
   | some (_,v)=>if ok then .tuple #[v,.bool true] else v
   | none=>if ok then .tuple #[zv,.bool false] else zv) w:=by
  intro q hq
  have hc:=zoo hkey hk en.isEmpty w
  rcases hen with ⟨rfl,rfl⟩ | ⟨g,clock,rfl,hg⟩
  · simp only [Instr.lookup,Sem.run_bind,run_underlying hu,Result.andThen_ok,Sem.run_pure,hc,hq]
    cases q with
    | none=>simp [hz1]
    | some p=>simp
  · simp only [Instr.lookup,Sem.run_bind,run_underlying hu,Result.andThen_ok,MapKept.run_getObj_map hg,Sem.run_pure,hc,hq]
    cases q with
    | none=>simp [hz1]
    | some p=>simp
 split at h
 · rename_i a hml
   simp only [Option.some.injEq] at h
   subst h
   rcases zpr hml with ⟨h1,_⟩ | ⟨j,ka,va,h1,h2,h3⟩
   · cases h1
   · simp only [Option.some.injEq] at h1
     subst h1
     obtain ⟨q,q1,e,q2,q3,_⟩:=zlT h3 hk (Array.length_toList.trans hrel.1) (fun i ka va e h1 h2=>(hrel.2 i ka va e h1 (by simpa using h2)).1) hkey w
     subst q3
     exact ⟨_,hlook _ q1,mres_rel (hrel.2 j ka a e h2 (by simpa using q2)).2,rfl,rfl,rfl⟩
 · rename_i hml
   simp only [Option.some.injEq] at h
   subst h
   rcases zpr hml with ⟨_,h2⟩ | ⟨j,ka,va,h1,_,_⟩
   · obtain ⟨q,q1,q2⟩:=zlT h2 hk (Array.length_toList.trans hrel.1) (fun i ka va e h1 h2=>(hrel.2 i ka va e h1 (by simpa using h2)).1) hkey w
     simp only at q2
     subst q2
     exact ⟨_,hlook _ q1,mres_rel hz2,rfl,rfl,rfl⟩
   · cases h1
 · cases h
theorem zyw {L:Nat→Option Ent} {t ty:TypeId} {m:AV} {r:Res} {vm:Value} {k e:TypeId} (hu:P.underlying t=some (.map k e)) (h:aMLen L m=some r) (hm:VRel S κ D w m vm)
  (hL:∀ b ent,L b=some ent→EntAt S κ D w (κ b) ent):∃ y,(Builtin.len_ #[t] ty #[vm]).run P w=.ok y w∧VRel S κ D w r.val y∧r.set=[]∧r.kill=none∧r.frz=[]:=by
 unfold aMLen at h
 split at h
 case h_2=>cases h
 rename_i es hes
 simp only [Option.some.injEq] at h
 subst h
 rcases zu0 hes hm hL with ⟨rfl,rfl⟩ | ⟨g,en,clock,rfl,hg,hl,_,_⟩
 · exact ⟨.int .i64 0,by simp [Builtin.len_,run_underlying hu,goInt],.c (.v _),rfl,rfl,rfl⟩
 · exact ⟨.int .i64 es.length,by simp [Builtin.len_,run_underlying hu,goInt,MapKept.run_getObj_map hg,hl],.c (.v _),rfl,rfl,rfl⟩
theorem zw9 {t:TypeId} {d:Nat} {r:Res} (hS:∀ g,S g→g < w.heap.size) (hd:¬ D d) (h:aMkMap P d t=some r) :
  ∃ y w' κ',(Instr.makeMap t none).run P w=.ok y w'∧EffAt S κ D w S κ' r y w'∧r.frz=[]:=by
 unfold aMkMap at h
 split at h
 case h_2=>cases h
 simp only [Option.some.injEq] at h
 subst h
 have hold:∀ g,g < w.heap.size→(w.alloc (.map #[] 0)).heap[g]?=w.heap[g]?:=fun g hg=>Below.heap_alloc w _ g hg
 refine ⟨.map (some w.heap.size),w.alloc (.map #[] 0),fun b=>if b=d then some (w.heap.size,0) else κ b,?_,?_,rfl⟩
 · simp [Instr.makeMap]
 · exact {
    os:=rfl
    tape:=rfl
    output:=rfl
    size:=by simp
    blk:=fun g hg _=>hold g hg
    sup:=fun _ h=>h
    snew:=fun _ h=>.inl h
    slt:=fun g hg=>by have:=hS g hg; simp; omega
    sfrz:=fun b hb=>by cases hb
    kold:=fun b hb=>if_neg (fun e=>hd (by subst e; exact hb))
    kout:=fun b hb=>if_neg (fun e=>hb (by simp [ids,e]))
    knew:=fun b _ hb g c' h=>by
     simp [ids] at hb
     subst hb
     simp at h
     omega
    one:=fun b b' _ _ h1 h2=>by
     simp [ids] at h1 h2
     rw [h1,h2]
    ents:=fun b e hb=>by
     simp at hb
     obtain ⟨rfl,rfl⟩:=hb
     refine EntAt.ofMap rfl rfl ⟨w.heap.size,0,#[],0,by simp,fun h=>by have:=hS _ h; omega,heap_alloc_new w _,rfl,by simp,by simp,by simp,by simp⟩
    val:=.map d w.heap.size 0 (.inr (by simp [ids])) (by simp) }
theorem EffAt.mapSet {b g c:Nat} {ent:Ent} {es:List (List AV)} {cur:Obj} {en:Array MapEntry} {clock:Nat} {fz:List Nat} {val:AV} {y:Value} (hS:∀ g,S g→g < w.heap.size) (hd:D b) (hκ:κ b=some (g,c))
  (h0:ent.z=0) (hbx:ent.box=false) (hg:w.heap[g]?=some cur) (hnS:¬ S g) (hfz:∀ b'∈fz,D b'∧b'≠b) (hfl:∀ b'∈fz,∀ g' c',κ b'=some (g',c')→g' < w.heap.size)
  (hinj:∀ b b' g c c',D b→D b'→κ b=some (g,c)→κ b'=some (g,c')→b=b')
  (hlen:en.size=es.length) (h1:∀ (i:Nat) (e:MapEntry),en[i]?=some e→e.born < clock) (h2:∀ (i j:Nat) (e f:MapEntry),i < j→en[i]?=some e→en[j]?=some f→e.born < f.born) (h3:∀ cs∈es,∃ k v,cs=[k,v])
  (h4:∀ (i:Nat) (k v:AV) (e:MapEntry),es[i]?=some [k,v]→en[i]?=some e→CRel (fun g'=>S g'∨∃ b' c',b'∈fz∧κ b'=some (g',c')) w k e.key∧CRel (fun g'=>S g'∨∃ b' c',b'∈fz∧κ b'=some (g',c')) w v e.val)
  (hv:∀ (S':Nat→Prop) (κ':Kap) (D':Nat→Prop) (w':World),VRel S' κ' D' w' val y) :
  EffAt S κ D w (fun g'=>S g'∨∃ b' c',b'∈fz∧κ b'=some (g',c')) κ { val:=val,set:=[(b,{ ent with es:=es })],frz:=fz } y { w with heap:=w.heap.setIfInBounds g (.map en clock) }:=by
 have hset:=MapKept.heap_set (w:=w) (o':=.map en clock) hg
 have hne:∀ g',(S g'∨∃ b' c',b'∈fz∧κ b'=some (g',c'))→g'≠g:=by
  intro g' h e
  subst e
  rcases h with h | ⟨b',c',hb,hk⟩
  · exact hnS h
  · exact (hfz b' hb).2 (hinj b' b g' c' c (hfz b' hb).1 hd hk hκ)
 exact {
  os:=rfl
  tape:=rfl
  output:=rfl
  size:=by simp
  blk:=fun g' _ hb=>hset.2 g' (fun e=>hb b c (.inl (by simp [ids])) hd (by rw [e]; exact hκ))
  sup:=fun _ h=>.inl h
  snew:=fun g' h=>by
   rcases h with h | ⟨b',c',hb,hk⟩
   · exact .inl h
   · exact .inr (.inr ⟨b',c',.inl hb,(hfz b' hb).1,hk⟩)
  slt:=fun g' h=>by
   rcases h with h | ⟨b',c',hb,hk⟩
   · simpa using hS g' h
   · simpa using hfl b' hb g' c' hk
  sfrz:=fun b' hb g' c' hk=>.inr ⟨b',c',hb,hk⟩
  kold:=fun _ _=>rfl
  kout:=fun _ _=>rfl
  knew:=fun b' h hb=>by
   simp [ids] at hb
   subst hb
   exact absurd hd h
  one:=fun b' b'' h _ hb=>by
   simp [ids] at hb
   subst hb
   exact absurd hd h
  ents:=fun b' e hb=>by
   simp at hb
   obtain ⟨rfl,rfl⟩:=hb
   refine EntAt.ofMap h0 hbx ⟨g,c,en,clock,hκ,fun h=>hne g h rfl,hset.1,hlen,h1,h2,h3,fun i k v e hi he=>?_⟩
   obtain ⟨q1,q2⟩:=h4 i k v e hi he
   exact ⟨q1.mono (fun _ h=>h) (fun g' h=>hset.2 g' (hne g' h)),q2.mono (fun _ h=>h) (fun g' h=>hset.2 g' (hne g' h))⟩
  val:=hv _ _ _ _ }
theorem zsl {L:Nat→Option Ent} {t:TypeId} {m k x:AV} {r:Res} {vm vk vx:Value} (hS:∀ g,S g→g < w.heap.size) (hDL:∀ b,D b↔(L b).isSome=true)
  (hinj:∀ b b' g c c',D b→D b'→κ b=some (g,c)→κ b'=some (g,c')→b=b') (h:aMSet P L t m k x=some r) (hm:VRel S κ D w m vm) (hk:VRel S κ D w k vk) (hx:VRel S κ D w x vx)
  (hL:∀ b ent,L b=some ent→EntAt S κ D w (κ b) ent):∃ w' S',(Instr.mapUpdate t vm vk vx).run P w=.ok () w'∧(∀ y,EffAt S κ D w S' κ r y w')∧Dis D r:=by
 unfold aMSet at h
 split at h
 case h_2=>cases h
 rename_i kt et hu
 split at h
 case h_2=>cases h
 rename_i b
 split at h
 case h_2=>cases h
 rename_i ent hl
 split at h
 case isFalse=>cases h
 rename_i hc
 obtain ⟨h0,hbx,hkey,hids⟩:=hc
 split at h
 case h_2=>cases h
 rename_i x' hsn
 split at h
 case isFalse=>cases h
 split at h
 case h_2=>cases h
 rename_i es hms
 simp only [Option.some.injEq] at h
 subst h
 obtain ⟨g,c,hd,hkb,rfl⟩:=hm.map_inv
 obtain ⟨g',c',en,clock,hk',hn,hg,hlen,h1,h2,h3,h4⟩:=(hL b ent hl).2 (zoH h0 hbx)
 rw [hkb] at hk'
 simp only [Option.some.injEq,Prod.mk.injEq] at hk'
 obtain ⟨rfl,rfl⟩:=hk'
 have hfz:∀ b'∈x.ids L 5,D b'∧b'≠b:=fun b' hb=>by
  have:=List.all_eq_true.1 hids b' hb
  simp only [Bool.and_eq_true,bne_iff_ne] at this
  exact ⟨ids_D hL 5 x vx hx b' hb,this.2⟩
 have hfl:∀ b'∈x.ids L 5,∀ g' c',κ b'=some (g',c')→g' < w.heap.size:=fun b' hb g' c' hk'=>by
  obtain ⟨ent',he'⟩:=Option.isSome_iff_exists.1 ((hDL b').1 (hfz b' hb).1)
  have:=hL b' ent' he'
  rw [hk'] at this
  exact this.lt
 have hxv:CRel (fun g'=>S g'∨∃ b' c',b'∈x.ids L 5∧κ b'=some (g',c')) w x' vx:=
  zmY hL (fun g h=>.inl h) 5 (zm2 hx) hsn (fun b' hb g c hk=>.inr ⟨b',c,by rw [nrm_ids] at hb; exact hb,hk⟩)
 have hkv:CRel (fun g'=>S g'∨∃ b' c',b'∈x.ids L 5∧κ b'=some (g',c')) w k vk:=(keyAV_val hkey hk).mono (fun g h=>.inl h) (fun _ _=>rfl)
 have h4':∀ (i:Nat) (k v:AV) (e:MapEntry),ent.es[i]?=some [k,v]→en[i]?=some e→CRel (fun g'=>S g'∨∃ b' c',b'∈x.ids L 5∧κ b'=some (g',c')) w k e.key∧CRel (fun g'=>S g'∨∃ b' c',b'∈x.ids L 5∧κ b'=some (g',c')) w v e.val:=
  fun i k v e hi he=>⟨(h4 i k v e hi he).1.mono (fun g h=>.inl h) (fun _ _=>rfl),(h4 i k v e hi he).2.mono (fun g h=>.inl h) (fun _ _=>rfl)⟩
 have hck:=zoo hkey hk false w
 have dis:Dis D { val:=.bot,set:=[(b,{ ent with es:=es })],frz:=x.ids L 5 }:=fun b' hb=>⟨(hfz b' hb).1,by simp [ids]; exact (hfz b' hb).2,by simp⟩
 rcases zvt hms with ⟨hF,rfl⟩ | ⟨j,hF,rfl⟩
 · obtain ⟨q,q1,q2⟩:=zlT hF hk (Array.length_toList.trans hlen) (fun i ka va e h1 h2=>(h4 i ka va e h1 (by simpa using h2)).1) hkey w
   simp only at q2
   subst q2
   refine ⟨{ w with heap:=w.heap.setIfInBounds g (.map (en.push { key:=vk,val:=vx,born:=clock }) (clock+1)) },_,?_,fun y=>EffAt.mapSet hS hd hkb h0 hbx hg hn hfz hfl hinj ?_ ?_ ?_ ?_ ?_ (fun _ _ _ _=>.bot y),dis⟩
   · simp only [Instr.mapUpdate,Sem.run_bind,run_underlying hu,Result.andThen_ok,MapKept.run_getObj_map hg,hck,q1,MapKept.run_setObj_map _ hg]
   · simp [hlen]
   · intro i e he
     rw [Array.getElem?_push] at he
     split at he
     · simp only [Option.some.injEq] at he; subst he; exact Nat.lt_succ_self _
     · have:=h1 i e he; omega
   · intro i j e f hij he hf
     have hjs:j < en.size+1:=by have:=(Array.getElem?_eq_some_iff.1 hf).1; simpa using this
     rw [Array.getElem?_push,if_neg (by omega)] at he
     rw [Array.getElem?_push] at hf
     split at hf
     · simp only [Option.some.injEq] at hf; subst hf; exact h1 i e he
     · exact h2 i j e f hij he hf
   · intro cs hcs
     rcases List.mem_append.1 hcs with hcs | hcs
     · exact h3 cs hcs
     · simp at hcs; exact ⟨_,_,hcs⟩
   · intro i k1 v1 e hi he
     rw [Array.getElem?_push] at he
     rw [List.getElem?_append] at hi
     split at he
     · rename_i hie
       simp only [Option.some.injEq] at he
       subst he
       rw [if_neg (by omega),show i - ent.es.length=0 by omega] at hi
       simp only [List.getElem?_cons_zero,Option.some.injEq,List.cons.injEq,and_true] at hi
       obtain ⟨rfl,rfl⟩:=hi
       exact ⟨hkv,hxv⟩
     · rename_i hie
       have hlt:=(Array.getElem?_eq_some_iff.1 he).1
       rw [if_pos (by omega)] at hi
       exact h4' i k1 v1 e hi he
 · obtain ⟨q,q1,e0,q2,q3,q4⟩:=zlT hF hk (Array.length_toList.trans hlen) (fun i ka va e h1 h2=>(h4 i ka va e h1 (by simpa using h2)).1) hkey w
   subst q3
   have q2':en[j]?=some e0:=by simpa using q2
   have hjlt:=(Array.getElem?_eq_some_iff.1 q2').1
   have hgetm:∀ (i:Nat) (e:MapEntry),(en.modify j fun e=>{ e with key:=vk,val:=vx })[i]?=some e→(i=j∧e={ e0 with key:=vk,val:=vx })∨(i≠j∧en[i]?=some e):=by
    intro i e he
    rw [Array.getElem?_modify] at he
    split at he
    · rename_i hij
      subst hij
      rw [q2'] at he
      simp only [Option.map_some,Option.some.injEq] at he
      exact .inl ⟨rfl,he.symm⟩
    · rename_i hij
      exact .inr ⟨fun e=>hij e.symm,he⟩
   refine ⟨{ w with heap:=w.heap.setIfInBounds g (.map (en.modify j fun e=>{ e with key:=vk,val:=vx }) clock) },_,?_,fun y=>EffAt.mapSet hS hd hkb h0 hbx hg hn hfz hfl hinj ?_ ?_ ?_ ?_ ?_ (fun _ _ _ _=>.bot y),dis⟩
   · simp only [Instr.mapUpdate,Sem.run_bind,run_underlying hu,Result.andThen_ok,MapKept.run_getObj_map hg,hck,q1,Instr.keyThatStays,q2',Option.map_some,Option.getD_some,q4,if_true,Sem.run_pure,MapKept.run_setObj_map _ hg]
   · simp [hlen]
   · intro i e he
     rcases hgetm i e he with ⟨_,rfl⟩ | ⟨_,he⟩
     · exact h1 j e0 q2'
     · exact h1 i e he
   · intro i i' e f hij he hf
     rcases hgetm i e he with ⟨hi1,rfl⟩ | ⟨_,he2⟩
     · rcases hgetm i' f hf with ⟨hi2,rfl⟩ | ⟨_,hf2⟩
       · omega
       · exact h2 i i' e0 f hij (by rw [hi1]; exact q2') hf2
     · rcases hgetm i' f hf with ⟨hi2,rfl⟩ | ⟨_,hf2⟩
       · exact h2 i i' e e0 hij he2 (by rw [hi2]; exact q2')
       · exact h2 i i' e f hij he2 hf2
   · intro cs hcs
     rcases List.mem_or_eq_of_mem_set hcs with hcs | rfl
     · exact h3 cs hcs
     · exact ⟨_,_,rfl⟩
   · intro i k1 v1 e hi he
     rw [List.getElem?_set] at hi
     rcases hgetm i e he with ⟨rfl,rfl⟩ | ⟨hij,he⟩
     · rw [if_pos rfl,if_pos (by omega)] at hi
       simp only [Option.some.injEq,List.cons.injEq,and_true] at hi
       obtain ⟨rfl,rfl⟩:=hi
       exact ⟨hkv,hxv⟩
     · rw [if_neg (fun e=>hij e.symm)] at hi
       exact h4' i k1 v1 e hi he
theorem zyE {L:Nat→Option Ent} {t ty:TypeId} {ts:Array TypeId} {m k:AV} {r:Res} {vm vk:Value} (hS:∀ g,S g→g < w.heap.size)
  (hinj:∀ b b' g c c',D b→D b'→κ b=some (g,c)→κ b'=some (g,c')→b=b') (hts:ts[0]?=some t) (h:aMDel P L t m k=some r) (hm:VRel S κ D w m vm) (hk:VRel S κ D w k vk)
  (hL:∀ b ent,L b=some ent→EntAt S κ D w (κ b) ent):∃ y w' S',(Builtin.delete_ ts ty #[vm,vk]).run P w=.ok y w'∧EffAt S κ D w S' κ r y w'∧r.frz=[]:=by
 unfold aMDel at h
 split at h
 case h_2=>cases h
 rename_i kt et hu
 split at h
 case h_2=>cases h
 rename_i b
 split at h
 case h_2=>cases h
 rename_i ent hl
 split at h
 case isFalse=>cases h
 rename_i hc
 obtain ⟨h0,hbx,hkey⟩:=hc
 split at h
 case h_2=>cases h
 rename_i es hms
 simp only [Option.some.injEq] at h
 subst h
 obtain ⟨g,c,hd,hkb,rfl⟩:=hm.map_inv
 obtain ⟨g',c',en,clock,hk',hn,hg,hlen,h1,h2,h3,h4⟩:=(hL b ent hl).2 (zoH h0 hbx)
 rw [hkb] at hk'
 simp only [Option.some.injEq,Prod.mk.injEq] at hk'
 obtain ⟨rfl,rfl⟩:=hk'
 have h4':∀ (i:Nat) (k v:AV) (e:MapEntry),ent.es[i]?=some [k,v]→en[i]?=some e→CRel (fun g'=>S g'∨∃ b' c',b'∈([]:List Nat)∧κ b'=some (g',c')) w k e.key∧CRel (fun g'=>S g'∨∃ b' c',b'∈([]:List Nat)∧κ b'=some (g',c')) w v e.val:=
  fun i k v e hi he=>⟨(h4 i k v e hi he).1.mono (fun g h=>.inl h) (fun _ _=>rfl),(h4 i k v e hi he).2.mono (fun g h=>.inl h) (fun _ _=>rfl)⟩
 have hck:=zoo hkey hk en.isEmpty w
 have hv:∀ (S':Nat→Prop) (κ':Kap) (D':Nat→Prop) (w':World),VRel S' κ' D' w' (.tup []) (.tuple #[]):=fun _ _ _ _=>.c (.tup [] #[] rfl (fun j c x hj=>by simp at hj))
 rcases zvh hms with ⟨hF,rfl⟩ | ⟨j,hF,rfl⟩
 · obtain ⟨q,q1,q2⟩:=zlT hF hk (Array.length_toList.trans hlen) (fun i ka va e h1 h2=>(h4 i ka va e h1 (by simpa using h2)).1) hkey w
   simp only at q2
   subst q2
   refine ⟨.tuple #[],{ w with heap:=w.heap.setIfInBounds g (.map en clock) },_,?_,EffAt.mapSet (fz:=[]) hS hd hkb h0 hbx hg hn (by simp) (by simp) hinj hlen h1 h2 h3 h4' hv,rfl⟩
   simp [Builtin.delete_,hts,run_underlying hu,MapKept.run_getObj_map hg,-Array.isEmpty_iff,hck,q1,MapKept.run_setObj_map _ hg]
 · obtain ⟨q,q1,e0,q2,q3,q4⟩:=zlT hF hk (Array.length_toList.trans hlen) (fun i ka va e h1 h2=>(h4 i ka va e h1 (by simpa using h2)).1) hkey w
   subst q3
   have q2':en[j]?=some e0:=by simpa using q2
   have hjlt:=(Array.getElem?_eq_some_iff.1 q2').1
   have hgetm:∀ (i:Nat),(en.eraseIdxIfInBounds j)[i]?=if i < j then en[i]? else en[i+1]?:=by
    intro i
    rw [Array.eraseIdxIfInBounds,dif_pos hjlt,← Array.getElem?_toList,Array.toList_eraseIdx,List.getElem?_eraseIdx]
    simp
   refine ⟨.tuple #[],{ w with heap:=w.heap.setIfInBounds g (.map (en.eraseIdxIfInBounds j) clock) },_,?_,EffAt.mapSet (fz:=[]) hS hd hkb h0 hbx hg hn (by simp) (by simp) hinj ?_ ?_ ?_ ?_ ?_ hv,rfl⟩
   · simp [Builtin.delete_,hts,run_underlying hu,MapKept.run_getObj_map hg,-Array.isEmpty_iff,hck,q1,MapKept.run_setObj_map _ hg]
   · rw [Array.eraseIdxIfInBounds,dif_pos hjlt,Array.size_eraseIdx,List.length_eraseIdx,if_pos (by omega),hlen]
   · intro i e he
     rw [hgetm] at he
     split at he
     · exact h1 i e he
     · exact h1 (i+1) e he
   · intro i i' e f hij he hf
     rw [hgetm] at he hf
     split at he <;> split at hf
     · exact h2 i i' e f hij he hf
     · exact h2 i (i'+1) e f (by omega) he hf
     · omega
     · exact h2 (i+1) (i'+1) e f (by omega) he hf
   · intro cs hcs
     exact h3 cs (List.mem_of_mem_eraseIdx hcs)
   · intro i k1 v1 e hi he
     rw [List.getElem?_eraseIdx] at hi
     rw [hgetm] at he
     split at hi
     · rename_i hlt
       rw [if_pos hlt] at he
       exact h4' i k1 v1 e hi he
     · rename_i hlt
       rw [if_neg hlt] at he
       exact h4' (i+1) k1 v1 e hi he
end
end Go.Ab
