/- Operations on maps. -/
import Derived.Test.YtdclabgakicjeaaGreatDoorAb0
import Derived.MapKept
import Derived.WideKeyRuns
import Derived.Laws.BytesString
import Derived.LoopN
set_option linter.unusedSimpArgs false
set_option linter.unusedVariables false
set_option linter.unusedSectionVars false
noncomputable section
namespace Go.Ab
open Go.RowKit
variable [Dr]
def First (P:Program) (t:TypeId) (k:AV) (es:List (List AV)):Option Nat→Prop
 | none=>∀ cs∈es,∃ ka va,cs=[ka,va]∧keyEq P t k ka=some false
 | some j=>(∃ ka va,es[j]?=some [ka,va]∧keyEq P t k ka=some true)∧∀ i < j,∃ ka va,es[i]?=some [ka,va]∧keyEq P t k ka=some false
section
variable {P:Program} {t:TypeId} {k:AV}
theorem First.nil:First P t k [] none:=fun cs h=>by cases h
theorem First.cons {ka va:AV} {es:List (List AV)} {o:Option Nat} (he:keyEq P t k ka=some false) (h:First P t k es o):First P t k ([ka,va] :: es) (o.map (·+1)):=by
 cases o with
 | none =>
   intro cs hcs; rcases List.mem_cons.1 hcs with rfl | hcs
   · exact ⟨ka,va,rfl,he⟩
   · exact h cs hcs
 | some j =>
   obtain ⟨⟨k1,v1,h1,h2⟩,h3⟩:=h; refine ⟨⟨k1,v1,by simpa using h1,h2⟩,fun i hi=>?_⟩
   cases i with
   | zero=>exact ⟨ka,va,rfl,he⟩
   | succ i=>simpa using h3 i (by simp at hi; omega)
theorem First.head {ka va:AV} {es:List (List AV)} (he:keyEq P t k ka=some true):First P t k ([ka,va] :: es) (some 0):=
 ⟨⟨ka,va,rfl,he⟩,fun i hi=>by omega⟩
theorem zmm:∀ {es:List (List AV)} {o:Option AV},mlook P t k es=some o→(o=none∧First P t k es none)∨∃ j ka va,o=some va∧es[j]?=some [ka,va]∧First P t k es (some j)
 | [],o,h=>by simp only [mlook,Option.some.injEq] at h; exact .inl ⟨h.symm,.nil⟩
 | [ka,va] :: r,o,h=>by
   simp only [mlook] at h; split at h
   · rename_i he; simp only [Option.some.injEq] at h; exact .inr ⟨0,ka,va,h.symm,rfl,.head he⟩
   · rename_i he; rcases zmm h with ⟨h1,h2⟩ | ⟨j,k1,v1,h1,h2,h3⟩
     · exact .inl ⟨h1,h2.cons he⟩
     · exact .inr ⟨j+1,k1,v1,h1,by simpa using h2,h3.cons he⟩
   · cases h
 | [] :: r,o,h=>by simp [mlook] at h
 | [_] :: r,o,h=>by simp [mlook] at h
 | (_ :: _ :: _ :: _) :: r,o,h=>by simp [mlook] at h
theorem zr4 {v:AV}:∀ {es es':List (List AV)},mset P t k v es=some es'→(First P t k es none∧es'=es++[[k,v]])∨∃ j,First P t k es (some j)∧es'=es.set j [k,v]
 | [],es',h=>by simp only [mset,Option.some.injEq] at h; exact .inl ⟨.nil,h.symm⟩
 | [ka,va] :: r,es',h=>by
   simp only [mset] at h; split at h
   · rename_i he; simp only [Option.some.injEq] at h; exact .inr ⟨0,.head he,h.symm⟩
   · rename_i he; split at h
     · rename_i l hl; simp only [Option.some.injEq] at h; rcases zr4 hl with ⟨h1,h2⟩ | ⟨j,h1,h2⟩
       · exact .inl ⟨h1.cons he,by rw [← h,h2]; rfl⟩
       · exact .inr ⟨j+1,h1.cons he,by rw [← h,h2]; rfl⟩
     · cases h
   · cases h
 | [] :: r,o,h=>by simp [mset] at h
 | [_] :: r,o,h=>by simp [mset] at h
 | (_ :: _ :: _ :: _) :: r,o,h=>by simp [mset] at h
theorem zr1:∀ {es es':List (List AV)},mdel P t k es=some es'→(First P t k es none∧es'=es)∨∃ j,First P t k es (some j)∧es'=es.eraseIdx j
 | [],es',h=>by simp only [mdel,Option.some.injEq] at h; exact .inl ⟨.nil,h.symm⟩
 | [ka,va] :: r,es',h=>by
   simp only [mdel] at h; split at h
   · rename_i he; simp only [Option.some.injEq] at h; exact .inr ⟨0,.head he,by rw [← h]; rfl⟩
   · rename_i he; split at h
     · rename_i l hl; simp only [Option.some.injEq] at h; rcases zr1 hl with ⟨h1,h2⟩ | ⟨j,h1,h2⟩
       · exact .inl ⟨h1.cons he,by rw [← h,h2]⟩
       · exact .inr ⟨j+1,h1.cons he,by rw [← h,h2]; rfl⟩
     · cases h
   · cases h
 | [] :: r,o,h=>by simp [mdel] at h
 | [_] :: r,o,h=>by simp [mdel] at h
 | (_ :: _ :: _ :: _) :: r,o,h=>by simp [mdel] at h
end
theorem bitsB_same {x y:Value} (n:Nat) (h:bitsB x y=some true):Instr.sameBits n x y=true:=by
 unfold bitsB at h; split at h
 · split at h
   · rename_i hk; subst hk; simp only [Option.some.injEq] at h; cases n <;> simpa [Instr.sameBits] using h
   · cases h
 · simp only [Option.some.injEq] at h; cases n <;> simpa [Instr.sameBits] using h
 · simp only [Option.some.injEq] at h; cases n <;> simpa [Instr.sameBits] using h
 · cases h
theorem zqz (n:Nat):∀ {xs ys:List Value},bitsL xs ys=some true→xs.length=ys.length∧(xs.zip ys).all (fun (x,y)=>Instr.sameBits n x y)=true
 | [],[],_=>⟨rfl,rfl⟩
 | x :: r,y :: s,h=>by
   simp only [bitsL] at h; obtain ⟨a,b,ha,hb,hab⟩:=zjL h; have h1:a=true:=by cases a <;> simp at hab ⊢
   have h2:b=true:=by cases b <;> simp [h1] at hab ⊢
   subst h1; subst h2; obtain ⟨i1,i2⟩:=zqz n hb; refine ⟨by simp [i1],?_⟩; rw [List.zip_cons_cons,List.all_cons]; rw [Bool.and_eq_true]; exact ⟨bitsB_same n ha,i2⟩
 | [],_ :: _,h=>by simp [bitsL] at h
 | _ :: _,[],h=>by simp [bitsL] at h
theorem ztl {td:TypeDesc} {x y:Value} (n:Nat) (h:Instr.sameNow td x y=some true):Instr.sameBits n x y=true:=by
 unfold Instr.sameNow at h; split at h
 · split at h
   · rename_i hk; subst hk; simp only [Option.some.injEq] at h; cases n <;> simpa [Instr.sameBits] using h
   · cases h
 · simp only [Option.some.injEq] at h; cases n <;> simpa [Instr.sameBits] using h
 · simp only [Option.some.injEq] at h; cases n <;> simpa [Instr.sameBits] using h
 · cases h
section
variable {P:Program} {S:Nat→Prop} {κ:Kap} {D:Nat→Prop} {w:World}
theorem scalT_agg {t:TypeId} (h:scalT P t=true):isAggB P t=some false:=by
 unfold scalT at h; split at h
 · rename_i hu; exact zdK hu
 · rename_i hu; exact zdK hu
 · rename_i hu; exact zdK hu
 · cases h
theorem zjg {t:TypeId} (h:scalT P t=true) (em:Bool) (n:Nat) (x:Value) (w:World):(Instr.checkKey em (n+1) t x).run P w=.ok () w:=by
 unfold scalT at h; split at h
 · rename_i hu; simp [Instr.checkKey,run_underlying hu]
 · rename_i hu; simp [Instr.checkKey,run_underlying hu]
 · rename_i hu; simp [Instr.checkKey,run_underlying hu]
 · cases h
theorem zse {t:TypeId} (h:scalT P t=true) {arr:Array Value} {off:Nat} (ho:off < arr.size) (w:World):(part t arr off).run P w=.ok arr[off] w:=by simp only [part,Sem.run_bind,zgl (scalT_agg h),Result.andThen_ok,Bool.false_eq_true,if_false,Array.getElem?_eq_getElem ho,Sem.run_pure]
theorem keyAV_val {t:TypeId} {k:AV} {x:Value} (h:keyAV P t k=true) (hr:VRel S κ D w k x):CRel S w k x:=by
 unfold keyAV at h; split at h
 · rw [hr.v_inv]; exact .v _
 · rename_i cs; split at h
   · rename_i xs fs hm hu; obtain ⟨vs,rfl,hl,h1,hp⟩:=hr.agg_inv; refine .agg cs vs hl h1 (fun j c x hc hx=>?_); obtain ⟨_,h2⟩:=zfg hm; obtain ⟨b,_,hb⟩:=h2 j c hc; have:=zmz hb (hp j c x hc hx); cases c <;> simp [AV.scal] at hb; subst hb; rw [this]; exact .v _
   · rename_i xs n e hm hu; obtain ⟨vs,rfl,hl,h1,hp⟩:=hr.agg_inv; refine .agg cs vs hl h1 (fun j c x hc hx=>?_); obtain ⟨_,h2⟩:=zfg hm; obtain ⟨b,_,hb⟩:=h2 j c hc; have:=zmz hb (hp j c x hc hx); cases c <;> simp [AV.scal] at hb; subst hb; rw [this]; exact .v _
   · cases h
 · cases h
theorem zlm {t:TypeId} {k:AV} {x:Value} (h:keyAV P t k=true) (hr:VRel S κ D w k x) (em:Bool) (w':World):(Instr.checkKey em 10000 t x).run P w'=.ok () w':=by
 unfold keyAV at h; split at h
 · simp only [Bool.and_eq_true] at h; exact zjg h.1 em 9999 x w'
 · rename_i cs; split at h
   · rename_i xs fs hm hu; simp only [Bool.and_eq_true,List.all_eq_true,decide_eq_true_eq] at h; have ex:=zfN hm hr; subst ex
     have key:∀ (l:List Field),(∀ f∈l,scalT P f.type=true∧f.offset < xs.length)→∀ w':World,(forIn (m:=Sem) l PUnit.unit (fun f _=>do
        if f.name ≠ "_" then Instr.checkKey em 9999 f.type (← part f.type xs.toArray f.offset)
        pure (ForInStep.yield PUnit.unit))).run P w'=.ok PUnit.unit w':=by
      intro l
      induction l with
      | nil=>intro _ w'; simp
      | cons f l ih =>
        intro hf w'; obtain ⟨f1,f2⟩:=hf f (by simp); have ihl:=ih (fun g hg=>hf g (by simp [hg])) w'; rw [List.forIn_cons]; by_cases hn:f.name = "_"
        · simp only [hn,ne_eq,not_true_eq_false,if_false,Sem.run_bind,Sem.run_pure,Result.andThen_ok]; exact ihl
        · simp only [hn,ne_eq,not_false_eq_true,if_true,Sem.run_bind,zse f1 (arr:=xs.toArray) (by simpa using f2) w',Result.andThen_ok,zjg f1 em 9998,Sem.run_pure]; exact ihl
     have:=key fs.toList h.2 w'; rw [show (10000:Nat)=9999+1 from rfl,Instr.checkKey]; simp only [Sem.run_bind,run_underlying hu,Result.andThen_ok]; simp at this ⊢; rw [this]; simp
   · rename_i xs n e hm hu; simp only [Bool.and_eq_true,decide_eq_true_eq,beq_iff_eq] at h; obtain ⟨h1,h2,h3,h4⟩:=h; have ex:=zfN hm hr; subst ex
     have key:∀ (l:List Nat),(∀ i∈l,i < xs.length)→∀ w':World,(forIn (m:=Sem) l PUnit.unit (fun i _=>do
        Instr.checkKey em 9999 e (← part e xs.toArray (i*(← sizeOf e)))
        pure (ForInStep.yield PUnit.unit))).run P w'=.ok PUnit.unit w':=by
      intro l
      induction l with
      | nil=>intro _ w'; simp
      | cons i l ih=>intro hf w'; have f2:=hf i (by simp); have ihl:=ih (fun g hg=>hf g (by simp [hg])) w'; rw [List.forIn_cons]; simp only [Sem.run_bind,zbk h3,Result.andThen_ok,Nat.mul_one,zse h2 (arr:=xs.toArray) (by simpa using f2) w',zjg h2 em 9998,Sem.run_pure]; exact ihl
     have:=key (List.range' 0 n) (fun i hi=>by simp [List.mem_range'] at hi; omega) w'; rw [show (10000:Nat)=9999+1 from rfl,Instr.checkKey]; simp only [Sem.run_bind,run_underlying hu,Result.andThen_ok]; simp only [Std.Legacy.Range.forIn_eq_forIn_range',Std.Legacy.Range.size,Nat.sub_zero,Nat.add_one_sub_one,Nat.div_one]; simp at this ⊢; rw [this]; simp
   · cases h
 · cases h
theorem ziz {t:TypeId} {k:AV} {x:Value} {es:List (List AV)} {en:List MapEntry} {o:Option Nat} (hF:First P t k es o) (hr:VRel S κ D w k x) (hlen:en.length=es.length)
  (hk:∀ (i:Nat) (ka va:AV) (e:MapEntry),es[i]?=some [ka,va]→en[i]?=some e→CRel S w ka e.key) (hkey:keyAV P t k=true) (w':World):∃ q:Option (Nat×Value),(Instr.findKey t x en).run P w'=.ok q w'∧(match o with
   | none=>q=none
   | some j=>∃ e,en[j]?=some e∧q=some (j,e.val)∧Instr.sameBits 10000 e.key x=true):=by
 unfold keyAV at hkey; split at hkey
 · rename_i y; have hx:=hr.v_inv; subst hx; simp only [Bool.and_eq_true] at hkey
   obtain ⟨td,hu⟩:∃ td,P.underlying t=some td:=by
    have:=hkey.1; unfold scalT at this
    cases hq:P.underlying t with
    | none=>simp [hq] at this
    | some td=>exact ⟨td,rfl⟩
   have hne:∀ ka:AV,∀ r,keyEq P t (.v x) ka=some r→∃ z,ka=.v z∧Instr.sameNow td x z=some r:=by intro ka r h; cases ka <;> simp [keyEq,hu] at h; exact ⟨_,rfl,h⟩
   have sym:∀ {td:TypeDesc} {a b:Value},Instr.sameNow td a b=some true→Instr.sameBits 10000 b a=true:=by
    intro td a b h; refine ztl 10000 (td:=td) ?_; unfold Instr.sameNow at h ⊢; split at h
    · split at h
      · rename_i hk; subst hk; simp only [Option.some.injEq,beq_iff_eq] at h; subst h; simp
      · cases h
    · simp only [Option.some.injEq] at h; simp [MapKept.bytes_beq] at h ⊢; rw [h]
    · simp only [Option.some.injEq,beq_iff_eq] at h; subst h; simp
    · cases h
   have main:∀ (es:List (List AV)) (en:List MapEntry) (o:Option Nat) (s:Nat),First P t (.v x) es o→en.length=es.length→(∀ (i:Nat) (ka va:AV) (e:MapEntry),es[i]?=some [ka,va]→en[i]?=some e→CRel S w ka e.key)→∃ q,Instr.findNow td x en s=some q∧(match o with
      | none=>q=none
      | some j=>∃ e,en[j]?=some e∧q=some (s+j,e.val)∧Instr.sameBits 10000 e.key x=true):=by
    intro es
    induction es with
    | nil =>
      intro en o s hF hl _; have:en=[]:=List.length_eq_zero_iff.1 (by simpa using hl); subst this
      cases o with
      | none=>exact ⟨none,rfl,rfl⟩
      | some j=>obtain ⟨⟨ka,va,h,_⟩,_⟩:=hF; simp at h
    | cons cs es ih =>
      intro en o s hF hl hk
      cases en with
      | nil=>simp at hl
      | cons e en =>
        have hk':∀ (i:Nat) (ka va:AV) (e:MapEntry),es[i]?=some [ka,va]→en[i]?=some e→CRel S w ka e.key:=fun i ka va e h1 h2=>hk (i+1) ka va e (by simpa using h1) (by simpa using h2)
        cases o with
        | none=>obtain ⟨ka,va,rfl,he⟩:=hF cs (by simp); obtain ⟨z,rfl,hz⟩:=hne ka false he; have hc:=hk 0 _ va e rfl rfl; cases hc; obtain ⟨q,h1,h2⟩:=ih en none (s+1) (fun c hc=>hF c (by simp [hc])) (by simpa using hl) hk'; exact ⟨q,by simp only [Instr.findNow,hz]; exact h1,h2⟩
        | some j =>
          cases j with
          | zero=>obtain ⟨⟨ka,va,h1,he⟩,_⟩:=hF; simp only [List.getElem?_cons_zero,Option.some.injEq] at h1; subst h1; obtain ⟨z,rfl,hz⟩:=hne ka true he; have hc:=hk 0 _ va e rfl rfl; cases hc; exact ⟨some (s,e.val),by simp only [Instr.findNow,hz],e,rfl,rfl,sym hz⟩
          | succ j=>obtain ⟨⟨ka,va,h1,he⟩,h3⟩:=hF; obtain ⟨k0,v0,g1,g2⟩:=h3 0 (by omega); simp only [List.getElem?_cons_zero,Option.some.injEq] at g1; subst g1; obtain ⟨z,rfl,hz⟩:=hne k0 false g2; have hc:=hk 0 _ v0 e rfl rfl; cases hc; obtain ⟨q,h1',h2'⟩:=ih en (some j) (s+1) ⟨⟨ka,va,by simpa using h1,he⟩,fun i hi=>by simpa using h3 (i+1) (by omega)⟩ (by simpa using hl) hk'; refine ⟨q,by simp only [Instr.findNow,hz]; exact h1',?_⟩; obtain ⟨e',q1,q2,q3⟩:=h2'; exact ⟨e',by simpa using q1,by rw [q2]; congr 2; omega,q3⟩
   obtain ⟨q,h1,h2⟩:=main es en o 0 hF hlen hk; refine ⟨q,MapKept.run_findKey hu h1,?_⟩
   cases o with
   | none=>exact h2
   | some j=>obtain ⟨e,q1,q2,q3⟩:=h2; exact ⟨e,q1,by rw [q2,Nat.zero_add],q3⟩
 · rename_i cs
   have hwide:(match P.underlying t with | some (.array _ _) | some (.struct _)=>true | _=>false)=true∧∃ xs,mapO AV.scal cs=some xs:=by
    split at hkey
    · rename_i xs fs hm hu; rw [hu]; exact ⟨rfl,xs,hm⟩
    · rename_i xs n e hm hu; rw [hu]; exact ⟨rfl,xs,hm⟩
    · cases hkey
   obtain ⟨hwide,xs,hm⟩:=hwide; have ex:=zfN hm hr; subst ex
   have hne:∀ ka:AV,∀ r,keyEq P t (.agg cs) ka=some r→∃ ds ys,ka=.agg ds∧mapO AV.scal ds=some ys∧isAggB P t=some true∧eqV P 20 t xs ys=some r∧bitsL xs ys=some r:=by
    intro ka r h; cases ka <;> simp only [keyEq,hm] at h <;> try (cases h; done)
    rename_i ds
    cases hd:mapO AV.scal ds with
    | none=>simp [hd] at h
    | some ys =>
      simp only [hd] at h; split at h
      · rename_i ha; refine ⟨ds,ys,rfl,hd,ha,?_⟩; unfold agree at h; split at h
        · rename_i a b h1 h2; split at h
          · rename_i hab; simp only [Option.some.injEq] at h; subst h; subst hab; exact ⟨h1,h2⟩
          · cases h
        · cases h
      · cases h
   have run1:∀ (ka:AV) (r:Bool) (y:Value) (w':World),keyEq P t (.agg cs) ka=some r→CRel S w ka y→(Op.equal t (.agg xs.toArray) y).run P w'=.ok r w'∧(r=true→Instr.sameBits 10000 y (.agg xs.toArray)=true):=by
    intro ka r y w' he hc; obtain ⟨ds,ys,rfl,hd,ha,h1,h2⟩:=hne ka r he; have ey:=zfN (κ:=κ) (D:=D) hd (.c hc); subst ey; refine ⟨?_,fun hr=>?_⟩
    · have:=znB (P:=P) 20 t xs ys r h1 9980 _ _ w' (.inl ⟨ha,rfl⟩) (.inl ⟨ha,rfl⟩); rw [show (9980+20:Nat)=Op.maxDepth from rfl] at this; exact this
    · subst hr
      have hsym:bitsL ys xs=some true:=by
       clear h1 hd ha hm he hr hc hkey hF hk hlen hne
       induction xs generalizing ys with
       | nil=>cases ys with
         | nil=>rfl
         | cons _ _=>simp [bitsL] at h2
       | cons a xs ih=>cases ys with
         | nil=>simp [bitsL] at h2
         | cons b ys =>
           simp only [bitsL] at h2 ⊢; obtain ⟨p,q,hp,hq,hpq⟩:=zjL h2; have h1:p=true:=by cases p <;> simp at hpq ⊢
           have h2':q=true:=by cases q <;> simp [h1] at hpq ⊢
           subst h1; subst h2'; rw [ih ys hq]
           have:bitsB b a=some true:=by
            unfold bitsB at hp ⊢; split at hp
            · split at hp
              · rename_i hk; subst hk; simp only [Option.some.injEq,beq_iff_eq] at hp; subst hp; simp
              · cases hp
            · simp only [Option.some.injEq] at hp; simp [MapKept.bytes_beq] at hp ⊢; rw [hp]
            · simp only [Option.some.injEq,beq_iff_eq] at hp; subst hp; simp
            · cases hp
           rw [this]; rfl
      obtain ⟨e1,e2⟩:=zqz 9999 hsym; show Instr.sameBits (9999+1) _ _=true; simp only [Instr.sameBits,Bool.and_eq_true]; exact ⟨by simpa using e1,by simpa using e2⟩
   have main:∀ (es:List (List AV)) (en:List MapEntry) (o:Option Nat) (s:Nat),First P t (.agg cs) es o→en.length=es.length→(∀ (i:Nat) (ka va:AV) (e:MapEntry),es[i]?=some [ka,va]→en[i]?=some e→CRel S w ka e.key)→∃ q,(Instr.findAsking t (.agg xs.toArray) en s).run P w'=.ok q w'∧(match o with
      | none=>q=none
      | some j=>∃ e,en[j]?=some e∧q=some (s+j,e.val)∧Instr.sameBits 10000 e.key (.agg xs.toArray)=true):=by
    intro es
    induction es with
    | nil =>
      intro en o s hF hl _; have:en=[]:=List.length_eq_zero_iff.1 (by simpa using hl); subst this
      cases o with
      | none=>exact ⟨none,by simp [Instr.findAsking],rfl⟩
      | some j=>obtain ⟨⟨ka,va,h,_⟩,_⟩:=hF; simp at h
    | cons c0 es ih =>
      intro en o s hF hl hk
      cases en with
      | nil=>simp at hl
      | cons e en =>
        have hk':∀ (i:Nat) (ka va:AV) (e:MapEntry),es[i]?=some [ka,va]→en[i]?=some e→CRel S w ka e.key:=fun i ka va e h1 h2=>hk (i+1) ka va e (by simpa using h1) (by simpa using h2)
        cases o with
        | none=>obtain ⟨ka,va,rfl,he⟩:=hF c0 (by simp); obtain ⟨r1,_⟩:=run1 ka false e.key w' he (hk 0 _ va e rfl rfl); obtain ⟨q,h1,h2⟩:=ih en none (s+1) (fun c hc=>hF c (by simp [hc])) (by simpa using hl) hk'; exact ⟨q,by simp only [Instr.findAsking,Sem.run_bind,r1,Result.andThen_ok,Bool.false_eq_true,if_false]; exact h1,h2⟩
        | some j =>
          cases j with
          | zero=>obtain ⟨⟨ka,va,h1,he⟩,_⟩:=hF; simp only [List.getElem?_cons_zero,Option.some.injEq] at h1; subst h1; obtain ⟨r1,r2⟩:=run1 ka true e.key w' he (hk 0 _ va e rfl rfl); exact ⟨some (s,e.val),by simp only [Instr.findAsking,Sem.run_bind,r1,Result.andThen_ok,if_true,Sem.run_pure],e,rfl,rfl,r2 rfl⟩
          | succ j=>obtain ⟨⟨ka,va,h1,he⟩,h3⟩:=hF; obtain ⟨k0,v0,g1,g2⟩:=h3 0 (by omega); simp only [List.getElem?_cons_zero,Option.some.injEq] at g1; subst g1; obtain ⟨r1,_⟩:=run1 k0 false e.key w' g2 (hk 0 _ v0 e rfl rfl); obtain ⟨q,h1',h2'⟩:=ih en (some j) (s+1) ⟨⟨ka,va,by simpa using h1,he⟩,fun i hi=>by simpa using h3 (i+1) (by omega)⟩ (by simpa using hl) hk'; refine ⟨q,by simp only [Instr.findAsking,Sem.run_bind,r1,Result.andThen_ok,Bool.false_eq_true,if_false]; exact h1',?_⟩; obtain ⟨e',q1,q2,q3⟩:=h2'; exact ⟨e',by simpa using q1,by rw [q2]; congr 2; omega,q3⟩
   obtain ⟨q,h1,h2⟩:=main es en o 0 hF hlen hk; refine ⟨q,?_,?_⟩
   · rw [run_findKey_eq w' hwide]; exact h1
   cases o with
   | none=>exact h2
   | some j=>obtain ⟨e,q1,q2,q3⟩:=h2; exact ⟨e,q1,by rw [q2,Nat.zero_add],q3⟩
 · cases hkey
theorem zt6 {t:TypeId} {a:AV} (h:zeroA P t=some a) (w:World):∃ z,(zeroValue t).run P w=.ok z w∧CRel S w a z:=by
 unfold zeroA at h
 cases hi:P.info? t with
 | none=>simp [hi] at h
 | some i =>
   cases hz:i.zero with
   | none=>simp [hi,hz] at h
   | some z =>
     simp only [hi,Option.bind_some,hz] at h; refine ⟨z,zcX hi hz,?_⟩
     have nrmC:∀ {a:AV} {x:Value},CRel S w a x→CRel S w (nrm P t a) x:=by
      intro a x hr; unfold nrm; split
      · rename_i cs
        cases hr with
        | agg _ vs hl h1 hp =>
          refine .agg _ vs (by rw [zeM]; exact hl) h1 (fun j c x hj hx=>?_); obtain ⟨a,ha,hc⟩:=ziC P _ _ j c hj; rcases hc with rfl | ⟨t',rfl⟩
          · exact hp j _ x ha hx
          · exact zi0 (hp j _ x ha hx)
      · exact zi0 hr
     split at h
     · rename_i cs heq; simp only [Option.some.injEq] at heq; subst heq; split at h
       · rename_i h1; simp only [Option.some.injEq] at h; subst h; obtain ⟨c1,c2,c3⟩:=zfB (z:=.agg cs) (S:=S) (w:=w) h1; exact nrmC (.agg _ _ c1 c2 c3)
       · cases h
     · rename_i x hne heq; simp only [Option.some.injEq] at heq; subst heq; split at h
       · simp only [Option.some.injEq] at h; subst h; exact nrmC (.v _)
       · cases h
     · rename_i heq; cases heq
theorem zr3 {L:Nat→Option Ent} {m:AV} {x:Value} {es:List (List AV)} (h:mesOf L m=some es) (hx:VRel S κ D w m x) (hL:∀ b ent,L b=some ent→EntAt S κ D w (κ b) ent):(x=.map none∧es=[])∨∃ g en clock,x=.map (some g)∧w.heap[g]?=some (.map en clock)∧en.size=es.length∧(∀ cs∈es,∃ k v,cs=[k,v])∧∀ (i:Nat) (k v:AV) (e:MapEntry),es[i]?=some [k,v]→en[i]?=some e→CRel S w k e.key∧CRel S w v e.val:=by
 unfold mesOf at h; split at h
 · simp only [Option.some.injEq] at h; exact .inl ⟨hx.v_inv,h.symm⟩
 · simp only [Option.some.injEq] at h; subst h; have:=hx.mp_inv
   cases this with
   | mp _ g en clock hS hg hl hb hi h2 hk hv=>exact .inr ⟨g,en,clock,rfl,hg,hl,h2,fun i k v e h1 h2=>⟨hk i k v e h1 h2,hv i k v e h1 h2⟩⟩
 · rename_i b; split at h
   case h_2=>cases h
   rename_i ent hl; split at h
   case isFalse=>cases h
   rename_i hz; simp only [Option.some.injEq] at h; subst h; obtain ⟨g,c,hd,hk,rfl⟩:=hx.map_inv; obtain ⟨g',c',en,clock,hk',hn,hg,hlen,h1,h2,h3,h4⟩:=(hL b ent hl).2 (zlM hz.1 hz.2); rw [hk] at hk'; simp only [Option.some.injEq,Prod.mk.injEq] at hk'; obtain ⟨rfl,rfl⟩:=hk'; exact .inr ⟨g,en,clock,rfl,hg,hlen,h3,h4⟩
 · cases h
theorem mres_rel {ok b:Bool} {a:AV} {x:Value} (h:CRel S w a x):VRel S κ D w (mres ok a b) (if ok then .tuple #[x,.bool b] else x):=by
 unfold mres
 cases ok with
 | false=>exact .c h
 | true =>
   refine .c (.tup _ _ rfl (fun j c y hj hy=>?_))
   match j with
   | 0=>simp at hj hy; subst hj; subst hy; exact h
   | 1=>simp at hj hy; subst hj; subst hy; exact .v _
   | j+2=>simp at hj
theorem zsN {L:Nat→Option Ent} {t:TypeId} {m k:AV} {ok:Bool} {r:Res} {vm vk:Value} (h:aMLook P L t m k ok=some r) (hm:VRel S κ D w m vm) (hk:VRel S κ D w k vk)
  (hL:∀ b ent,L b=some ent→EntAt S κ D w (κ b) ent):∃ y,(Instr.lookup t vm vk ok).run P w=.ok y w∧VRel S κ D w r.val y∧r.set=[]∧r.kill=none∧r.frz=[]∧r.re=[]:=by
 unfold aMLook at h; split at h
 case h_2=>cases h
 rename_i kt et hu; split at h
 case h_2=>cases h
 rename_i es z hes hz; split at h
 case isFalse=>cases h
 rename_i hkey; obtain ⟨zv,hz1,hz2⟩:=zt6 (S:=S) hz w
 obtain ⟨en,hen,hrel⟩:∃ en:Array MapEntry,(vm=.map none∧en=#[]∨∃ g clock,vm=.map (some g)∧w.heap[g]?=some (.map en clock))∧en.size=es.length∧∀ (i:Nat) (k v:AV) (e:MapEntry),es[i]?=some [k,v]→en[i]?=some e→CRel S w k e.key∧CRel S w v e.val:=by
  rcases zr3 hes hm hL with ⟨rfl,rfl⟩ | ⟨g,en,clock,rfl,hg,hl,_,h4⟩
  · exact ⟨#[],.inl ⟨rfl,rfl⟩,rfl,fun i k v e h1=>by simp at h1⟩
  · exact ⟨en,.inr ⟨g,clock,rfl,hg⟩,hl,h4⟩
 have hlook:∀ q,(Instr.findKey kt vk en.toList).run P w=.ok q w→(Instr.lookup t vm vk ok).run P w=.ok (match q with
   | some (_,v)=>if ok then .tuple #[v,.bool true] else v
   | none=>if ok then .tuple #[zv,.bool false] else zv) w:=by
  intro q hq; have hc:=zlm hkey hk en.isEmpty w; rcases hen with ⟨rfl,rfl⟩ | ⟨g,clock,rfl,hg⟩
  · simp only [Instr.lookup,Sem.run_bind,run_underlying hu,Result.andThen_ok,Sem.run_pure,hc,hq]
    cases q with
    | none=>simp [hz1]
    | some p=>simp
  · simp only [Instr.lookup,Sem.run_bind,run_underlying hu,Result.andThen_ok,MapKept.run_getObj_map hg,Sem.run_pure,hc,hq]
    cases q with
    | none=>simp [hz1]
    | some p=>simp
 split at h
 · rename_i a hml; simp only [Option.some.injEq] at h; subst h; rcases zmm hml with ⟨h1,_⟩ | ⟨j,ka,va,h1,h2,h3⟩
   · cases h1
   · simp only [Option.some.injEq] at h1; subst h1; obtain ⟨q,q1,e,q2,q3,_⟩:=ziz h3 hk (Array.length_toList.trans hrel.1) (fun i ka va e h1 h2=>(hrel.2 i ka va e h1 (by simpa using h2)).1) hkey w; subst q3; exact ⟨_,hlook _ q1,mres_rel (hrel.2 j ka a e h2 (by simpa using q2)).2,rfl,rfl,rfl,rfl⟩
 · rename_i hml; simp only [Option.some.injEq] at h; subst h; rcases zmm hml with ⟨_,h2⟩ | ⟨j,ka,va,h1,_,_⟩
   · obtain ⟨q,q1,q2⟩:=ziz h2 hk (Array.length_toList.trans hrel.1) (fun i ka va e h1 h2=>(hrel.2 i ka va e h1 (by simpa using h2)).1) hkey w; simp only at q2; subst q2; exact ⟨_,hlook _ q1,mres_rel hz2,rfl,rfl,rfl,rfl⟩
   · cases h1
 · cases h
theorem ztx {L:Nat→Option Ent} {t ty:TypeId} {m:AV} {r:Res} {vm:Value} {k e:TypeId} (hu:P.underlying t=some (.map k e)) (h:aMLen L m=some r) (hm:VRel S κ D w m vm)
  (hL:∀ b ent,L b=some ent→EntAt S κ D w (κ b) ent):∃ y,(Builtin.len_ #[t] ty #[vm]).run P w=.ok y w∧VRel S κ D w r.val y∧r.set=[]∧r.kill=none∧r.frz=[]∧r.re=[]:=by
 unfold aMLen at h; split at h
 case h_2=>cases h
 rename_i es hes; simp only [Option.some.injEq] at h; subst h; rcases zr3 hes hm hL with ⟨rfl,rfl⟩ | ⟨g,en,clock,rfl,hg,hl,_,_⟩
 · exact ⟨.int .i64 0,by simp [Builtin.len_,run_underlying hu,goInt],.c (.v _),rfl,rfl,rfl,rfl⟩
 · exact ⟨.int .i64 es.length,by simp [Builtin.len_,run_underlying hu,goInt,MapKept.run_getObj_map hg,hl],.c (.v _),rfl,rfl,rfl,rfl⟩
theorem zsP {t:TypeId} {d:Nat} {r:Res} (hS:∀ g,S g→g < w.heap.size) (hd:¬ D d) (h:aMkMap P d t=some r):∃ y w' κ',(Instr.makeMap t none).run P w=.ok y w'∧EffAt S κ D w S κ' r y w'∧r.frz=[]:=by
 unfold aMkMap at h; split at h
 case h_2=>cases h
 simp only [Option.some.injEq] at h; subst h; have hold:∀ g,g < w.heap.size→(w.alloc (.map #[] 0)).heap[g]?=w.heap[g]?:=fun g hg=>Below.heap_alloc w _ g hg
 refine ⟨.map (some w.heap.size),w.alloc (.map #[] 0),fun b=>if b=d then some (w.heap.size,0) else κ b,?_,?_,rfl⟩
 · simp [Instr.makeMap]
 · exact {
    os:=rfl
    tape:=rfl
    output:=.of
    size:=by simp
    blk:=fun g hg _=>hold g hg
    sup:=fun _ h=>h
    snew:=fun _ h=>.inl h
    slt:=fun g hg=>by have:=hS g hg; simp; omega
    sfrz:=fun b hb=>by cases hb
    kold:=fun b hb _=>if_neg (fun e=>hd (by subst e; exact hb))
    kout:=fun b hb=>if_neg (fun e=>hb (by simp [ids,e]))
    knew:=fun b _ hb g c' h=>by simp [ids] at hb; subst hb; simp at h; omega
    one:=fun b b' _ _ h1 h2 _ _ _ _ _=>by simp [ids] at h1 h2; rw [h1,h2]
    res:=fun b hb=>by cases hb
    ents:=fun b e hb=>by simp at hb; obtain ⟨rfl,rfl⟩:=hb; refine EntAt.ofMap rfl rfl ⟨w.heap.size,0,#[],0,by simp,fun h=>by have:=hS _ h; omega,heap_alloc_new w _,rfl,by simp,by simp,by simp,by simp⟩
    val:=.map d w.heap.size 0 (.inr (by simp [ids])) (by simp) }
theorem EffAt.mapSet {b g c:Nat} {ent:Ent} {es:List (List AV)} {cur:Obj} {en:Array MapEntry} {clock:Nat} {fz:List Nat} {val:AV} {y:Value} (hS:∀ g,S g→g < w.heap.size) (hd:D b) (hκ:κ b=some (g,c))
  (h0:ent.z=0) (hbx:ent.box=false) (hg:w.heap[g]?=some cur) (hnS:¬ S g) (hfz:∀ b'∈fz,D b'∧b'≠b) (hfl:∀ b'∈fz,∀ g' c',κ b'=some (g',c')→g' < w.heap.size)
  (hinj:∀ b b' g c c',D b→D b'→κ b=some (g,c)→κ b'=some (g,c')→b=b')
  (hlen:en.size=es.length) (h1:∀ (i:Nat) (e:MapEntry),en[i]?=some e→e.born < clock) (h2:∀ (i j:Nat) (e f:MapEntry),i < j→en[i]?=some e→en[j]?=some f→e.born < f.born) (h3:∀ cs∈es,∃ k v,cs=[k,v])
  (h4:∀ (i:Nat) (k v:AV) (e:MapEntry),es[i]?=some [k,v]→en[i]?=some e→CRel (fun g'=>S g'∨∃ b' c',b'∈fz∧κ b'=some (g',c')) w k e.key∧CRel (fun g'=>S g'∨∃ b' c',b'∈fz∧κ b'=some (g',c')) w v e.val)
  (hv:∀ (S':Nat→Prop) (κ':Kap) (D':Nat→Prop) (w':World),VRel S' κ' D' w' val y):EffAt S κ D w (fun g'=>S g'∨∃ b' c',b'∈fz∧κ b'=some (g',c')) κ { val:=val,set:=[(b,{ ent with es:=es })],frz:=fz } y { w with heap:=w.heap.setIfInBounds g (.map en clock) }:=by
 have hset:=MapKept.heap_set (w:=w) (o':=.map en clock) hg
 have hne:∀ g',(S g'∨∃ b' c',b'∈fz∧κ b'=some (g',c'))→g'≠g:=by
  intro g' h e; subst e; rcases h with h | ⟨b',c',hb,hk⟩
  · exact hnS h
  · exact (hfz b' hb).2 (hinj b' b g' c' c (hfz b' hb).1 hd hk hκ)
 exact {
  os:=rfl
  tape:=rfl
  output:=.of
  size:=by simp
  blk:=fun g' _ hb=>hset.2 g' (fun e=>hb b c (.inl (by simp [ids])) hd (by rw [e]; exact hκ))
  sup:=fun _ h=>.inl h
  snew:=fun g' h=>by
   rcases h with h | ⟨b',c',hb,hk⟩
   · exact .inl h
   · exact .inr (.inr ⟨b',c',.inl hb,(hfz b' hb).1,hk⟩)
  slt:=fun g' h=>by
   rcases h with h | ⟨b',c',hb,hk⟩
   · simpa using hS g' h
   · simpa using hfl b' hb g' c' hk
  sfrz:=fun b' hb g' c' hk=>.inr ⟨b',c',hb,hk⟩
  kold:=fun _ _ _=>rfl
  kout:=fun _ _=>rfl
  knew:=fun b' h hb=>by simp [ids] at hb; subst hb; exact absurd (h hd) (by simp)
  one:=fun b' b'' h _ hb=>by simp [ids] at hb; subst hb; exact absurd (h hd) (by simp)
  res:=fun b hb=>by cases hb
  ents:=fun b' e hb=>by simp at hb; obtain ⟨rfl,rfl⟩:=hb; refine EntAt.ofMap h0 hbx ⟨g,c,en,clock,hκ,fun h=>hne g h rfl,hset.1,hlen,h1,h2,h3,fun i k v e hi he=>?_⟩; obtain ⟨q1,q2⟩:=h4 i k v e hi he; exact ⟨q1.mono (fun _ h=>h) (fun g' h=>hset.2 g' (hne g' h)),q2.mono (fun _ h=>h) (fun g' h=>hset.2 g' (hne g' h))⟩
  val:=hv _ _ _ _ }
theorem zoV {L:Nat→Option Ent} {t:TypeId} {m k x:AV} {r:Res} {vm vk vx:Value} (hS:∀ g,S g→g < w.heap.size) (hDL:∀ b,D b↔(L b).isSome=true)
  (hinj:∀ b b' g c c',D b→D b'→κ b=some (g,c)→κ b'=some (g,c')→b=b') (h:aMSet P L t m k x=some r) (hm:VRel S κ D w m vm) (hk:VRel S κ D w k vk) (hx:VRel S κ D w x vx)
  (hL:∀ b ent,L b=some ent→EntAt S κ D w (κ b) ent):∃ w' S',(Instr.mapUpdate t vm vk vx).run P w=.ok () w'∧(∀ y,EffAt S κ D w S' κ r y w')∧Dis D r:=by
 unfold aMSet at h; split at h
 case h_2=>cases h
 rename_i kt et hu; split at h
 case h_2=>cases h
 rename_i b; split at h
 case h_2=>cases h
 rename_i ent hl; split at h
 case isFalse=>cases h
 rename_i hc; obtain ⟨h0,hbx,hkey,hids⟩:=hc; split at h
 case h_2=>cases h
 rename_i x' hsn; split at h
 case isFalse=>cases h
 split at h
 case h_2=>cases h
 rename_i es hms; simp only [Option.some.injEq] at h; subst h; obtain ⟨g,c,hd,hkb,rfl⟩:=hm.map_inv; obtain ⟨g',c',en,clock,hk',hn,hg,hlen,h1,h2,h3,h4⟩:=(hL b ent hl).2 (zlM h0 hbx); rw [hkb] at hk'; simp only [Option.some.injEq,Prod.mk.injEq] at hk'; obtain ⟨rfl,rfl⟩:=hk'
 have hfz:∀ b'∈x.ids L 5,D b'∧b'≠b:=fun b' hb=>by have:=List.all_eq_true.1 hids b' hb; simp only [Bool.and_eq_true,bne_iff_ne] at this; exact ⟨ids_D hL 5 x vx hx b' hb,this.2⟩
 have hfl:∀ b'∈x.ids L 5,∀ g' c',κ b'=some (g',c')→g' < w.heap.size:=fun b' hb g' c' hk'=>by obtain ⟨ent',he'⟩:=Option.isSome_iff_exists.1 ((hDL b').1 (hfz b' hb).1); have:=hL b' ent' he'; rw [hk'] at this; exact this.lt
 have hxv:CRel (fun g'=>S g'∨∃ b' c',b'∈x.ids L 5∧κ b'=some (g',c')) w x' vx:=
  zh7 hL (fun g h=>.inl h) 5 (zj0 hx) hsn (fun b' hb g c hk=>.inr ⟨b',c,by rw [nrm_ids] at hb; exact hb,hk⟩)
 have hkv:CRel (fun g'=>S g'∨∃ b' c',b'∈x.ids L 5∧κ b'=some (g',c')) w k vk:=(keyAV_val hkey hk).mono (fun g h=>.inl h) (fun _ _=>rfl)
 have h4':∀ (i:Nat) (k v:AV) (e:MapEntry),ent.es[i]?=some [k,v]→en[i]?=some e→CRel (fun g'=>S g'∨∃ b' c',b'∈x.ids L 5∧κ b'=some (g',c')) w k e.key∧CRel (fun g'=>S g'∨∃ b' c',b'∈x.ids L 5∧κ b'=some (g',c')) w v e.val:=
  fun i k v e hi he=>⟨(h4 i k v e hi he).1.mono (fun g h=>.inl h) (fun _ _=>rfl),(h4 i k v e hi he).2.mono (fun g h=>.inl h) (fun _ _=>rfl)⟩
 have hck:=zlm hkey hk false w; have dis:Dis D { val:=.bot,set:=[(b,{ ent with es:=es })],frz:=x.ids L 5 }:=fun b' hb=>⟨(hfz b' hb).1,by simp [ids]; exact (hfz b' hb).2,by simp⟩
 rcases zr4 hms with ⟨hF,rfl⟩ | ⟨j,hF,rfl⟩
 · obtain ⟨q,q1,q2⟩:=ziz hF hk (Array.length_toList.trans hlen) (fun i ka va e h1 h2=>(h4 i ka va e h1 (by simpa using h2)).1) hkey w; simp only at q2; subst q2; refine ⟨{ w with heap:=w.heap.setIfInBounds g (.map (en.push { key:=vk,val:=vx,born:=clock }) (clock+1)) },_,?_,fun y=>EffAt.mapSet hS hd hkb h0 hbx hg hn hfz hfl hinj ?_ ?_ ?_ ?_ ?_ (fun _ _ _ _=>.bot y),dis⟩
   · simp only [Instr.mapUpdate,Sem.run_bind,run_underlying hu,Result.andThen_ok,MapKept.run_getObj_map hg,hck,q1,MapKept.run_setObj_map _ hg]
   · simp [hlen]
   · intro i e he; rw [Array.getElem?_push] at he; split at he
     · simp only [Option.some.injEq] at he; subst he; exact Nat.lt_succ_self _
     · have:=h1 i e he; omega
   · intro i j e f hij he hf; have hjs:j < en.size+1:=by have:=(Array.getElem?_eq_some_iff.1 hf).1; simpa using this
     rw [Array.getElem?_push,if_neg (by omega)] at he; rw [Array.getElem?_push] at hf; split at hf
     · simp only [Option.some.injEq] at hf; subst hf; exact h1 i e he
     · exact h2 i j e f hij he hf
   · intro cs hcs; rcases List.mem_append.1 hcs with hcs | hcs
     · exact h3 cs hcs
     · simp at hcs; exact ⟨_,_,hcs⟩
   · intro i k1 v1 e hi he; rw [Array.getElem?_push] at he; rw [List.getElem?_append] at hi; split at he
     · rename_i hie; simp only [Option.some.injEq] at he; subst he; rw [if_neg (by omega),show i - ent.es.length=0 by omega] at hi; simp only [List.getElem?_cons_zero,Option.some.injEq,List.cons.injEq,and_true] at hi; obtain ⟨rfl,rfl⟩:=hi; exact ⟨hkv,hxv⟩
     · rename_i hie; have hlt:=(Array.getElem?_eq_some_iff.1 he).1; rw [if_pos (by omega)] at hi; exact h4' i k1 v1 e hi he
 · obtain ⟨q,q1,e0,q2,q3,q4⟩:=ziz hF hk (Array.length_toList.trans hlen) (fun i ka va e h1 h2=>(h4 i ka va e h1 (by simpa using h2)).1) hkey w; subst q3; have q2':en[j]?=some e0:=by simpa using q2
   have hjlt:=(Array.getElem?_eq_some_iff.1 q2').1
   have hgetm:∀ (i:Nat) (e:MapEntry),(en.modify j fun e=>{ e with key:=vk,val:=vx })[i]?=some e→(i=j∧e={ e0 with key:=vk,val:=vx })∨(i≠j∧en[i]?=some e):=by
    intro i e he; rw [Array.getElem?_modify] at he; split at he
    · rename_i hij; subst hij; rw [q2'] at he; simp only [Option.map_some,Option.some.injEq] at he; exact .inl ⟨rfl,he.symm⟩
    · rename_i hij; exact .inr ⟨fun e=>hij e.symm,he⟩
   refine ⟨{ w with heap:=w.heap.setIfInBounds g (.map (en.modify j fun e=>{ e with key:=vk,val:=vx }) clock) },_,?_,fun y=>EffAt.mapSet hS hd hkb h0 hbx hg hn hfz hfl hinj ?_ ?_ ?_ ?_ ?_ (fun _ _ _ _=>.bot y),dis⟩
   · simp only [Instr.mapUpdate,Sem.run_bind,run_underlying hu,Result.andThen_ok,MapKept.run_getObj_map hg,hck,q1,Instr.keyThatStays,q2',Option.map_some,Option.getD_some,q4,if_true,Sem.run_pure,MapKept.run_setObj_map _ hg]
   · simp [hlen]
   · intro i e he; rcases hgetm i e he with ⟨_,rfl⟩ | ⟨_,he⟩
     · exact h1 j e0 q2'
     · exact h1 i e he
   · intro i i' e f hij he hf; rcases hgetm i e he with ⟨hi1,rfl⟩ | ⟨_,he2⟩
     · rcases hgetm i' f hf with ⟨hi2,rfl⟩ | ⟨_,hf2⟩
       · omega
       · exact h2 i i' e0 f hij (by rw [hi1]; exact q2') hf2
     · rcases hgetm i' f hf with ⟨hi2,rfl⟩ | ⟨_,hf2⟩
       · exact h2 i i' e e0 hij he2 (by rw [hi2]; exact q2')
       · exact h2 i i' e f hij he2 hf2
   · intro cs hcs; rcases List.mem_or_eq_of_mem_set hcs with hcs | rfl
     · exact h3 cs hcs
     · exact ⟨_,_,rfl⟩
   · intro i k1 v1 e hi he; rw [List.getElem?_set] at hi; rcases hgetm i e he with ⟨rfl,rfl⟩ | ⟨hij,he⟩
     · rw [if_pos rfl,if_pos (by omega)] at hi; simp only [Option.some.injEq,List.cons.injEq,and_true] at hi; obtain ⟨rfl,rfl⟩:=hi; exact ⟨hkv,hxv⟩
     · rw [if_neg (fun e=>hij e.symm)] at hi; exact h4' i k1 v1 e hi he
theorem ztw {L:Nat→Option Ent} {t ty:TypeId} {ts:Array TypeId} {m k:AV} {r:Res} {vm vk:Value} (hS:∀ g,S g→g < w.heap.size)
  (hinj:∀ b b' g c c',D b→D b'→κ b=some (g,c)→κ b'=some (g,c')→b=b') (hts:ts[0]?=some t) (h:aMDel P L t m k=some r) (hm:VRel S κ D w m vm) (hk:VRel S κ D w k vk)
  (hL:∀ b ent,L b=some ent→EntAt S κ D w (κ b) ent):∃ y w' S',(Builtin.delete_ ts ty #[vm,vk]).run P w=.ok y w'∧EffAt S κ D w S' κ r y w'∧r.frz=[]:=by
 unfold aMDel at h; split at h
 case h_2=>cases h
 rename_i kt et hu; split at h
 case h_2=>cases h
 rename_i b; split at h
 case h_2=>cases h
 rename_i ent hl; split at h
 case isFalse=>cases h
 rename_i hc; obtain ⟨h0,hbx,hkey⟩:=hc; split at h
 case h_2=>cases h
 rename_i es hms; simp only [Option.some.injEq] at h; subst h; obtain ⟨g,c,hd,hkb,rfl⟩:=hm.map_inv; obtain ⟨g',c',en,clock,hk',hn,hg,hlen,h1,h2,h3,h4⟩:=(hL b ent hl).2 (zlM h0 hbx); rw [hkb] at hk'; simp only [Option.some.injEq,Prod.mk.injEq] at hk'; obtain ⟨rfl,rfl⟩:=hk'
 have h4':∀ (i:Nat) (k v:AV) (e:MapEntry),ent.es[i]?=some [k,v]→en[i]?=some e→CRel (fun g'=>S g'∨∃ b' c',b'∈([]:List Nat)∧κ b'=some (g',c')) w k e.key∧CRel (fun g'=>S g'∨∃ b' c',b'∈([]:List Nat)∧κ b'=some (g',c')) w v e.val:=
  fun i k v e hi he=>⟨(h4 i k v e hi he).1.mono (fun g h=>.inl h) (fun _ _=>rfl),(h4 i k v e hi he).2.mono (fun g h=>.inl h) (fun _ _=>rfl)⟩
 have hck:=zlm hkey hk en.isEmpty w; have hv:∀ (S':Nat→Prop) (κ':Kap) (D':Nat→Prop) (w':World),VRel S' κ' D' w' (.tup []) (.tuple #[]):=fun _ _ _ _=>.c (.tup [] #[] rfl (fun j c x hj=>by simp at hj))
 rcases zr1 hms with ⟨hF,rfl⟩ | ⟨j,hF,rfl⟩
 · obtain ⟨q,q1,q2⟩:=ziz hF hk (Array.length_toList.trans hlen) (fun i ka va e h1 h2=>(h4 i ka va e h1 (by simpa using h2)).1) hkey w; simp only at q2; subst q2; refine ⟨.tuple #[],{ w with heap:=w.heap.setIfInBounds g (.map en clock) },_,?_,EffAt.mapSet (fz:=[]) hS hd hkb h0 hbx hg hn (by simp) (by simp) hinj hlen h1 h2 h3 h4' hv,rfl⟩; simp [Builtin.delete_,hts,run_underlying hu,MapKept.run_getObj_map hg,-Array.isEmpty_iff,hck,q1,MapKept.run_setObj_map _ hg]
 · obtain ⟨q,q1,e0,q2,q3,q4⟩:=ziz hF hk (Array.length_toList.trans hlen) (fun i ka va e h1 h2=>(h4 i ka va e h1 (by simpa using h2)).1) hkey w; subst q3; have q2':en[j]?=some e0:=by simpa using q2
   have hjlt:=(Array.getElem?_eq_some_iff.1 q2').1
   have hgetm:∀ (i:Nat),(en.eraseIdxIfInBounds j)[i]?=if i < j then en[i]? else en[i+1]?:=by intro i; rw [Array.eraseIdxIfInBounds,dif_pos hjlt,← Array.getElem?_toList,Array.toList_eraseIdx,List.getElem?_eraseIdx]; simp
   refine ⟨.tuple #[],{ w with heap:=w.heap.setIfInBounds g (.map (en.eraseIdxIfInBounds j) clock) },_,?_,EffAt.mapSet (fz:=[]) hS hd hkb h0 hbx hg hn (by simp) (by simp) hinj ?_ ?_ ?_ ?_ ?_ hv,rfl⟩
   · simp [Builtin.delete_,hts,run_underlying hu,MapKept.run_getObj_map hg,-Array.isEmpty_iff,hck,q1,MapKept.run_setObj_map _ hg]
   · rw [Array.eraseIdxIfInBounds,dif_pos hjlt,Array.size_eraseIdx,List.length_eraseIdx,if_pos (by omega),hlen]
   · intro i e he; rw [hgetm] at he; split at he
     · exact h1 i e he
     · exact h1 (i+1) e he
   · intro i i' e f hij he hf; rw [hgetm] at he hf; split at he <;> split at hf
     · exact h2 i i' e f hij he hf
     · exact h2 i (i'+1) e f (by omega) he hf
     · omega
     · exact h2 (i+1) (i'+1) e f (by omega) he hf
   · intro cs hcs; exact h3 cs (List.mem_of_mem_eraseIdx hcs)
   · intro i k1 v1 e hi he; rw [List.getElem?_eraseIdx] at hi; rw [hgetm] at he; split at hi
     · rename_i hlt; rw [if_pos hlt] at he; exact h4' i k1 v1 e hi he
     · rename_i hlt; rw [if_neg hlt] at he; exact h4' (i+1) k1 v1 e hi he
end
end Go.Ab
namespace Go.Ab
open Go.RowKit
variable [Dr]
section
variable {P:Program} {S:Nat→Prop} {κ:Kap} {D:Nat→Prop} {w:World} {L:Nat→Option Ent}
theorem zr9:∀ (cs:List AV) (q:Nat) (cs':List AV) (nms:Mem) (nbk:List (Nat×Nat)),nest L q cs=some (cs',nms,nbk)→cs'.length=cs.length∧nbk.map (·.2)=nms.map (·.1)∧(∀ p∈nbk,q≤p.2∧p.2 < 950∧p.1 < 1000∧(L p.1).isSome=true)∧(nbk.map (·.1)).Nodup∧(nbk.map (·.2)).Nodup∧(∀ p∈nms,∃ c,(c,p.1)∈nbk∧L c=some p.2∧p.2.box=false)∧∀ (S S':Nat→Prop) (κ κ':Kap) (D D':Nat→Prop) (w:World),(∀ g,S g→S' g)→(∀ p∈nbk,D' p.2∧κ' p.2=κ p.1)→∀ (j:Nat) (a a':AV) (x:Value),cs[j]?=some a→cs'[j]?=some a'→VRel S κ D w a x→VRel S' κ' D' w a' x:=by
 intro cs
 induction cs with
 | nil=>intro q cs' nms nbk h; simp [nest] at h; obtain ⟨rfl,rfl,rfl⟩:=h; simp
 | cons a r ih =>
   intro q cs' nms nbk h
   have one:∀ (c:Nat) (ent:Ent) (av:AV) (cs0:List AV) (nms0:Mem) (nbk0:List (Nat×Nat)),nest L (q+1) r=some (cs0,nms0,nbk0)→L c=some ent→ent.box=false→c < 1000→q < 950→nbk0.all (fun p=>p.1≠c)=true→(∀ (S S':Nat→Prop) (κ κ':Kap) (D D':Nat→Prop) (w:World) (x:Value),D' q→κ' q=κ c→VRel S κ D w a x→VRel S' κ' D' w av x)→cs'=av :: cs0→nms=(q,ent) :: nms0→nbk=(c,q) :: nbk0→cs'.length=(a :: r).length∧nbk.map (·.2)=nms.map (·.1)∧(∀ p∈nbk,q≤p.2∧p.2 < 950∧p.1 < 1000∧(L p.1).isSome=true)∧(nbk.map (·.1)).Nodup∧(nbk.map (·.2)).Nodup∧(∀ p∈nms,∃ c,(c,p.1)∈nbk∧L c=some p.2∧p.2.box=false)∧∀ (S S':Nat→Prop) (κ κ':Kap) (D D':Nat→Prop) (w:World),(∀ g,S g→S' g)→(∀ p∈nbk,D' p.2∧κ' p.2=κ p.1)→∀ (j:Nat) (a0 a':AV) (x:Value),(a :: r)[j]?=some a0→cs'[j]?=some a'→VRel S κ D w a0 x→VRel S' κ' D' w a' x:=by
    intro c ent av cs0 nms0 nbk0 hr hl hb hc hq hall hv e1 e2 e3; obtain ⟨i1,i2,i3,i4,i5,i6,i7⟩:=ih (q+1) cs0 nms0 nbk0 hr; subst e1; subst e2; subst e3; refine ⟨by simp [i1],by simp [i2],fun p hp=>?_,?_,?_,fun p hp=>?_,fun S S' κ κ' D D' w hS hk j a0 a' x h1 h2 h3=>?_⟩
    · rcases List.mem_cons.1 hp with rfl | hp
      · exact ⟨Nat.le_refl _,hq,hc,by simp [hl]⟩
      · have:=i3 p hp; exact ⟨by omega,this.2⟩
    · simp only [List.map_cons,List.nodup_cons]; refine ⟨fun hm=>?_,i4⟩; obtain ⟨p,hp,e⟩:=List.mem_map.1 hm; have:=List.all_eq_true.1 hall p hp; simp at this; exact this e
    · simp only [List.map_cons,List.nodup_cons]; refine ⟨fun hm=>?_,i5⟩; obtain ⟨p,hp,e⟩:=List.mem_map.1 hm; have:=(i3 p hp).1; omega
    · rcases List.mem_cons.1 hp with rfl | hp
      · exact ⟨c,List.mem_cons_self,hl,hb⟩
      · obtain ⟨c',h1,h2⟩:=i6 p hp; exact ⟨c',List.mem_cons_of_mem _ h1,h2⟩
    · cases j with
      | zero=>simp at h1 h2; subst h1; subst h2; have:=hk (c,q) List.mem_cons_self; exact hv S S' κ κ' D D' w x this.1 this.2 h3
      | succ j=>exact i7 S S' κ κ' D D' w hS (fun p hp=>hk p (List.mem_cons_of_mem _ hp)) j a0 a' x (by simpa using h1) (by simpa using h2) h3
   simp only [nest] at h; split at h
   · rename_i hC; split at h
     case h_2=>cases h
     rename_i cs0 ms0 bk0 hr; simp only [Option.some.injEq,Prod.mk.injEq] at h; obtain ⟨rfl,rfl,rfl⟩:=h; obtain ⟨i1,i2,i3,i4,i5,i6,i7⟩:=ih q _ _ _ hr; refine ⟨by simp [i1],i2,i3,i4,i5,i6,fun S S' κ κ' D D' w hS hk j a0 a' x h1 h2 h3=>?_⟩
     cases j with
     | zero=>simp at h1 h2; subst h1; subst h2; exact .c ((zep 4 hC h3).mono hS (fun _ _=>rfl))
     | succ j=>exact i7 S S' κ κ' D D' w hS hk j a0 a' x (by simpa using h1) (by simpa using h2) h3
   · split at h
     · rename_i c z n _; split at h
       case h_2=>cases h
       rename_i ent cs0 ms0 bk0 hl hr; split at h
       case isFalse=>cases h
       rename_i hc; obtain ⟨hz,hb,hzp,hn,hc1,hq,hall⟩:=hc; simp only [Option.some.injEq,Prod.mk.injEq] at h; obtain ⟨e1,e2,e3⟩:=h; refine one c ent _ cs0 ms0 bk0 hr hl hb hc1 hq hall ?_ e1.symm e2.symm e3.symm; intro S S' κ κ' D D' w x hd hk hv
       cases hv with
       | c h=>cases h
       | row0 _ _ hd' hk'=>exact .row0 q z hd (hk.trans hk')
       | row _ _ _ _ g cc off' cap hd' hk' hn ho hcc=>exact .row q z 0 n g cc off' cap hd (hk.trans hk') hn ho hcc
     · rename_i c _; split at h
       case h_2=>cases h
       rename_i ent cs0 ms0 bk0 hl hr; split at h
       case isFalse=>cases h
       rename_i hc; obtain ⟨hz,hb,hc1,hq,hall⟩:=hc; simp only [Option.some.injEq,Prod.mk.injEq] at h; obtain ⟨e1,e2,e3⟩:=h; refine one c ent _ cs0 ms0 bk0 hr hl hb hc1 hq hall ?_ e1.symm e2.symm e3.symm; intro S S' κ κ' D D' w x hd hk hv; obtain ⟨g,cc,hd',hk',rfl⟩:=hv.map_inv; exact .map q g cc hd (hk.trans hk')
     · cases h
theorem znW {bk:List (Nat×Nat)}:∀ (cs cs':List AV),zlY bk cs=some cs'→cs'.length=cs.length∧∀ (S:Nat→Prop) (κ κ':Kap) (D D':Nat→Prop) (w:World),(∀ p∈bk,D' p.1∧κ' p.1=κ p.2)→∀ (j:Nat) (a a':AV) (x:Value),cs[j]?=some a→cs'[j]?=some a'→VRel S κ D w a x→VRel S κ' D' w a' x
 | [],cs',h=>by simp [zlY] at h; subst h; simp
 | a :: r,cs',h=>by
   simp only [zlY] at h; split at h
   · cases h
   · rename_i cs0 hr; obtain ⟨i1,i2⟩:=znW r cs0 hr
     have one:∀ av:AV,cs'=av :: cs0→(∀ (S:Nat→Prop) (κ κ':Kap) (D D':Nat→Prop) (w:World) (x:Value),(∀ p∈bk,D' p.1∧κ' p.1=κ p.2)→VRel S κ D w a x→VRel S κ' D' w av x)→cs'.length=(a :: r).length∧∀ (S:Nat→Prop) (κ κ':Kap) (D D':Nat→Prop) (w:World),(∀ p∈bk,D' p.1∧κ' p.1=κ p.2)→∀ (j:Nat) (a0 a':AV) (x:Value),(a :: r)[j]?=some a0→cs'[j]?=some a'→VRel S κ D w a0 x→VRel S κ' D' w a' x:=by
      intro av e hv; subst e; refine ⟨by simp [i1],fun S κ κ' D D' w hk j a0 a' x h1 h2 h3=>?_⟩
      cases j with
      | zero=>simp at h1 h2; subst h1; subst h2; exact hv S κ κ' D D' w x hk h3
      | succ j=>exact i2 S κ κ' D D' w hk j a0 a' x (by simpa using h1) (by simpa using h2) h3
     split at h
     · rename_i hC; injection h with h; exact one a h.symm (fun S κ κ' D D' w x _ hv=>.c (zep 4 hC hv))
     · split at h
       · rename_i q z n _; split at h
         case h_2=>cases h
         rename_i p hf; injection h with h; have hp:=List.mem_of_find?_eq_some hf; have hq:p.2=q:=by simpa using List.find?_some hf
         refine one _ h.symm (fun S κ κ' D D' w x hk hv=>?_); obtain ⟨k1,k2⟩:=hk p hp; rw [hq] at k2
         cases hv with
         | c h=>cases h
         | row0 _ _ hd' hk'=>exact .row0 p.1 z k1 (k2.trans hk')
         | row _ _ _ _ g cc off' cap hd' hk' hn ho hcc=>exact .row p.1 z 0 n g cc off' cap k1 (k2.trans hk') hn ho hcc
       · rename_i q _; split at h
         case h_2=>cases h
         rename_i p hf; injection h with h; have hp:=List.mem_of_find?_eq_some hf; have hq:p.2=q:=by simpa using List.find?_some hf
         refine one _ h.symm (fun S κ κ' D D' w x hk hv=>?_); obtain ⟨k1,k2⟩:=hk p hp; rw [hq] at k2; obtain ⟨g,cc,hd',hk',rfl⟩:=hv.map_inv; exact .map p.1 g cc k1 (k2.trans hk')
       · cases h
theorem zl5 {ms:Mem}:∀ (bk:List (Nat×Nat)) (back:List (Nat×Ent)),backN ms bk=some back→ids back=bk.map (·.1)∧∀ p∈back,∃ q,(p.1,q)∈bk∧look ms q=some p.2∧p.2.box=false
 | [],back,h=>by simp [backN] at h; subst h; simp [ids]
 | (c,q) :: r,back,h=>by
   simp only [backN] at h; split at h
   · rename_i ent l hl hr; split at h
     case isFalse=>cases h
     rename_i hb; injection h with h; subst h; obtain ⟨h1,h2⟩:=zl5 r l hr; refine ⟨by simp [ids] at h1 ⊢; exact h1,fun p hp=>?_⟩; rcases List.mem_cons.1 hp with rfl | hp
     · exact ⟨q,List.mem_cons_self,hl,hb⟩
     · obtain ⟨q',q1,q2⟩:=h2 p hp; exact ⟨q',List.mem_cons_of_mem _ q1,q2⟩
   · cases h
theorem zqE (hL:∀ b ent,L b=some ent→EntAt S κ D w (κ b) ent) {k0:Nat} {x0:AV}:∀ (args:List AV) (k:Nat) (as:List AV) (fz:List Nat),dArgs L k0 x0 k args=some (as,fz)→∀ vals:List Value,vals.length=args.length→(∀ (j:Nat) (a:AV) (x:Value),args[j]?=some a→vals[j]?=some x→VRel S κ D w a x)→as.length=args.length∧(∀ b∈fz,D b)∧(∀ j a,j+k=k0→as[j]?=some a→a=x0)∧∀ (S':Nat→Prop) (κ':Kap) (D':Nat→Prop),(∀ g,S g→S' g)→(∀ b∈fz,∀ g c,κ b=some (g,c)→S' g)→∀ (j:Nat) (a:AV) (x:Value),j+k≠k0→as[j]?=some a→vals[j]?=some x→VRel S' κ' D' w a x
 | [],k,as,fz,h,vals,_,_=>by simp [dArgs] at h; obtain ⟨rfl,rfl⟩:=h; simp
 | a :: r,k,as,fz,h,[],hl,_=>by simp at hl
 | a :: r,k,as,fz,h,x :: vals,hl,hv=>by
   simp only [dArgs] at h; split at h
   · cases h
   · rename_i as0 fz0 hr; obtain ⟨i1,i2,i3,i4⟩:=zqE hL r (k+1) as0 fz0 hr vals (by simpa using hl) (fun j a x hj hx=>hv (j+1) a x (by simpa using hj) (by simpa using hx)); split at h
     · rename_i hk; simp only [Option.some.injEq,Prod.mk.injEq] at h; obtain ⟨rfl,rfl⟩:=h; refine ⟨by simp [i1],i2,fun j b hj hb=>?_,fun S' κ' D' hS hf j b y hj hb hy=>?_⟩
       · cases j with
         | zero=>simpa using hb.symm
         | succ j=>exact i3 j b (by omega) (by simpa using hb)
       · cases j with
         | zero=>omega
         | succ j=>exact i4 S' κ' D' hS hf j b y (by omega) (by simpa using hb) (by simpa using hy)
     · rename_i hk; split at h
       case h_2=>cases h
       rename_i a' hs; simp only [Option.some.injEq,Prod.mk.injEq] at h; obtain ⟨rfl,rfl⟩:=h; have hax:=hv 0 a x rfl rfl; refine ⟨by simp [i1],fun b hb=>?_,fun j b hj hb=>?_,fun S' κ' D' hS hf j b y hj hb hy=>?_⟩
       · rcases List.mem_append.1 hb with h | h
         · exact ids_D hL 5 a x hax b h
         · exact i2 b h
       · cases j with
         | zero=>omega
         | succ j=>exact i3 j b (by omega) (by simpa using hb)
       · cases j with
         | zero=>simp at hb hy; subst hb; subst hy; exact .c (zh7 hL hS 5 hax hs (fun b hb=>hf b (List.mem_append_left _ hb)))
         | succ j=>exact i4 S' κ' D' hS (fun b hb=>hf b (List.mem_append_right _ hb)) j b y (by omega) (by simpa using hb) (by simpa using hy)
theorem box_ren {S S':Nat→Prop} {κ κ':Kap} {D D':Nat→Prop} {w:World} {kb:Option (Nat×Nat)} {ent:Ent} {cs cs':List AV} (h:EntAt S κ D w kb ent) (hb:ent.box=true) (he:ent.es=[cs]) (hl:cs'.length=cs.length)
  (hn:∀ g c,kb=some (g,c)→¬ S' g) (hv:∀ (j:Nat) (a a':AV) (x:Value),cs[j]?=some a→cs'[j]?=some a'→VRel S κ D w a x→VRel S' κ' D' w a' x):EntAt S' κ' D' w kb { ent with es:=[cs'] }:=by
 obtain ⟨q1,q2⟩:=h.1 (.inl hb); refine EntAt.of (.inl hb) ⟨fun x hx=>?_,?_⟩
 · have:x=cs':=by simpa using hx
   subst this; rw [hl]; exact q1 cs (by rw [he]; exact List.mem_singleton.2 rfl)
 · cases kb with
   | none=>simp only at q2 ⊢; rw [he] at q2; exact absurd q2.1 (by simp)
   | some gc =>
     obtain ⟨g,c⟩:=gc; obtain ⟨cells,c1,c2,c3,c4,c5,c6⟩:=q2; refine ⟨cells,c1,c2,by rw [he] at c3; simpa using c3,c4,hn g c rfl,fun i j xs a hi hj=>?_⟩
     have hi0:i=0∧xs=cs':=by
      cases i with
      | zero=>simp at hi; exact ⟨rfl,hi.symm⟩
      | succ i=>simp at hi
     obtain ⟨rfl,rfl⟩:=hi0; have hlt:j < cs.length:=by have:=(List.getElem?_eq_some_iff.1 hj).1; omega
     obtain ⟨u,u1,u2,u3,_⟩:=c6 0 j cs cs[j] (by rw [he]; rfl) (List.getElem?_eq_getElem hlt); exact ⟨u,u1,u2,fun hbx=>hv j cs[j] a u (List.getElem?_eq_getElem hlt) hj (u3 hbx),fun hbx=>by rw [hb] at hbx; cases hbx⟩
theorem znO:∀ (l:List (Nat×Nat)),(l.map (·.1)).Nodup→∀ x y z,(x,y)∈l→(x,z)∈l→y=z:=by
 intro l hn
 induction l with
 | nil=>intro x y z h; cases h
 | cons q l ihl =>
   intro x y z h1 h2; simp only [List.map_cons,List.nodup_cons] at hn; rcases List.mem_cons.1 h1 with rfl | h1'
   · rcases List.mem_cons.1 h2 with h2' | h2'
     · injection h2' with _ h2'; exact h2'.symm
     · exact absurd (List.mem_map.2 ⟨_,h2',rfl⟩) hn.1
   · rcases List.mem_cons.1 h2 with h2' | h2'
     · exact absurd (List.mem_map.2 ⟨_,h1',by rw [← h2']⟩) hn.1
     · exact ihl hn.2 x y z h1' h2'
theorem pair_inj2:∀ (l:List (Nat×Nat)),(l.map (·.2)).Nodup→∀ x y z,(x,z)∈l→(y,z)∈l→x=y:=by
 intro l hn
 induction l with
 | nil=>intro x y z h; cases h
 | cons q l ihl =>
   intro x y z h1 h2; simp only [List.map_cons,List.nodup_cons] at hn; rcases List.mem_cons.1 h1 with rfl | h1'
   · rcases List.mem_cons.1 h2 with h2' | h2'
     · injection h2' with h2' _; exact h2'.symm
     · exact absurd (List.mem_map.2 ⟨_,h2',rfl⟩) hn.1
   · rcases List.mem_cons.1 h2 with h2' | h2'
     · exact absurd (List.mem_map.2 ⟨_,h1',by rw [← h2']⟩) hn.1
     · exact ihl hn.2 x y z h1' h2'
theorem ztv {call:zaX} (hcall:CallOK P call) {f:FuncId} {k0:Nat} {args:List AV} {r:Res} {vals:Array Value}
  (hS:∀ g,S g→g < w.heap.size) (hk:Dr.ok S w) (hDL:∀ b,D b↔(L b).isSome=true) (hinj:∀ b b' g c c',D b→D b'→κ b=some (g,c)→κ b'=some (g,c')→b=b')
  (hL:∀ b ent,L b=some ent→EntAt S κ D w (κ b) ent) (h:aDeep call L f k0 args=some r) (hl:vals.size=args.length)
  (hv:∀ (j:Nat) (a:AV) (x:Value),args[j]?=some a→vals[j]?=some x→VRel S κ D w a x):enters P f=true∧Calls P f vals w fun e w'=>∃ x S' κ',e=.returned x∧EffAt S κ D w S' κ' r x w'∧∀ b∈r.frz,D b∧b ∉ ids r.set∧r.kill≠some b:=by
 unfold aDeep at h; split at h
 case h_2=>cases h
 rename_i b z hk0; split at h
 case h_2=>cases h
 rename_i ent hlb; split at h
 case isFalse=>cases h
 split at h
 case h_2=>cases h
 rename_i cs hes; split at h
 case h_2=>cases h
 rename_i cs' nms nbk as fz hnest hda; split at h
 case isFalse=>cases h
 rename_i hcond; obtain ⟨hz,hbx,hnb,hfz⟩:=hcond; split at h
 case h_2=>cases h
 rename_i rv ms' hc; obtain ⟨n1,n2,n3,n4,n5,n6,n7⟩:=zr9 cs 900 cs' nms nbk hnest; obtain ⟨d1,d2,d3,d4⟩:=zqE (S:=S) (κ:=κ) (D:=D) (w:=w) hL args 0 as fz hda vals.toList (by simpa using hl) (fun j a x hj hx=>hv j a x hj (by simpa using hx)); obtain ⟨hen,hcalls⟩:=hcall f as _ rv ms' hc; refine ⟨hen,?_⟩; have hDb:D b:=(hDL b).2 (by simp [hlb]); have hDn:∀ p∈nbk,D p.1:=fun p hp=>(hDL p.1).2 (n3 p hp).2.2.2
 have hnb':∀ p∈nbk,p.1≠b:=fun p hp=>by simpa using List.all_eq_true.1 hnb p hp
 have hfz':∀ c∈fz,c≠b∧∀ p∈nbk,p.1≠c:=fun c hc=>by have h1:=List.all_eq_true.1 hfz c hc; simp only [Bool.and_eq_true,bne_iff_ne,decide_eq_true_eq] at h1; exact ⟨h1.2.1,fun p hp=>by simpa using List.all_eq_true.1 h1.2.2 p hp⟩
 let ms:Mem:=(1000,{ ent with es:=[cs'] }) :: nms
 let κi:Kap:=fun k=>if k=1000 then κ b else kapOf κ nbk k
 let Sc:Nat→Prop:=fun g=>S g∨∃ b c,b∈fz∧κ b=some (g,c)
 have hq:∀ p∈nbk,p.2≠1000:=fun p hp=>by have:=(n3 p hp).2.1; omega
 have hκb:κi 1000=κ b:=if_pos rfl
 have hκn:∀ p∈nbk,κi p.2=κ p.1:=fun p hp=>by show (if p.2=1000 then _ else _)=_; rw [if_neg (hq p hp),zeJ n5 p hp]
 have hDi:Dm ms 1000:=by show (look ms 1000).isSome=true; simp [ms,look]
 have hDin:∀ p∈nbk,Dm ms p.2:=fun p hp=>by
  refine zeK ?_; have:p.2∈nms.map (·.1):=by rw [← n2]; exact List.mem_map.2 ⟨p,hp,rfl⟩
  simp [ms,ids] at this ⊢; exact .inr this
 have hms:∀ k,Dm ms k→(k=1000∧True)∨∃ c,(c,k)∈nbk:=fun k hk=>by
  obtain ⟨e,he⟩:=Option.isSome_iff_exists.1 hk; rcases List.mem_cons.1 (zgn he) with h1 | h1
  · injection h1 with h1 _; exact .inl ⟨h1,trivial⟩
  · obtain ⟨c,hc,_⟩:=n6 _ h1; exact .inr ⟨c,hc⟩
 have back:∀ k,Dm ms k→∃ c,D c∧κi k=κ c∧(c=b∨(c,k)∈nbk)∧(k=1000→c=b):=fun k hk=>by
  rcases hms k hk with ⟨rfl,-⟩ | ⟨c,hc⟩
  · exact ⟨b,hDb,hκb,.inl rfl,fun _=>rfl⟩
  · exact ⟨c,hDn _ hc,hκn _ hc,.inr hc,fun e=>absurd e (hq _ hc)⟩
 have hinjI:∀ k k' g c c',Dm ms k→Dm ms k'→κi k=some (g,c)→κi k'=some (g,c')→k=k':=fun k k' g c c' hk hk' e e'=>by
  rcases hms k hk with ⟨rfl,-⟩ | ⟨q,hq1⟩
  · rcases hms k' hk' with ⟨rfl,-⟩ | ⟨q',hq2⟩
    · rfl
    · rw [hκb] at e; rw [hκn _ hq2] at e'; exact absurd (hinj _ _ _ _ _ hDb (hDn _ hq2) e e').symm (hnb' _ hq2)
  · rcases hms k' hk' with ⟨rfl,-⟩ | ⟨q',hq2⟩
    · rw [hκb] at e'; rw [hκn _ hq1] at e; exact absurd (hinj _ _ _ _ _ (hDn _ hq1) hDb e e') (hnb' _ hq1)
    · rw [hκn _ hq1] at e; rw [hκn _ hq2] at e'; have:=hinj _ _ _ _ _ (hDn _ hq1) (hDn _ hq2) e e'; simp only at this; subst this; exact znO nbk n4 _ _ _ hq1 hq2
 have hScn:∀ c,D c→c ∉ fz→∀ g cp,κ c=some (g,cp)→¬ Sc g:=fun c hc hn g cp hk hs=>by
  rcases hs with hs | ⟨b',c',hb',hk'⟩
  · obtain ⟨e,he⟩:=Option.isSome_iff_exists.1 ((hDL c).1 hc); have:=hL c e he; rw [hk] at this; exact this.notS hs
  · have:=hinj b' c g c' cp (d2 b' hb') hc hk' hk; subst this; exact hn hb'
 have hbfz:b ∉ fz:=fun hm=>(hfz' b hm).1 rfl
 have hnfz:∀ p∈nbk,p.1 ∉ fz:=fun p hp hm=>(hfz' _ hm).2 p hp rfl
 have hEb:=hL b ent hlb; refine (hcalls w Sc κi vals (by rw [hl,d1]) ?_ (Dr.keep hk (fun _ h=>.inl h) (fun _ _=>rfl)) ?_ ?_ hinjI).mono ?_
 · intro g hg; rcases hg with h | ⟨b',c,hb',hk⟩
   · exact hS g h
   · obtain ⟨e,he⟩:=Option.isSome_iff_exists.1 ((hDL b').1 (d2 b' hb')); have:=hL b' e he; rw [hk] at this; exact this.lt
 · intro k a x hk hx; by_cases hkk:k=k0
   · subst hkk; have ea:=d3 k a (by omega) hk; subst ea; have hvx:=hv k _ x hk0 hx; obtain ⟨g,c,hd,hkb,rfl⟩:=hvx.loc_inv; exact .loc 1000 z 0 0 g c hDi (hκb.trans hkb)
   · exact d4 Sc κi (Dm ms) (fun g h=>.inl h) (fun b' hb' g c hk'=>.inr ⟨b',c,hb',hk'⟩) k a x (by omega) hk (by simpa using hx)
 · intro k e hk; by_cases hk1:k=1000
   · subst hk1
     have he:e={ ent with es:=[cs'] }:=by simp [look] at hk; exact hk.symm
     subst he; rw [hκb]; refine box_ren hEb hbx hes n1 (hScn b hDb hbfz) (fun j a a' x h1 h2 h3=>n7 S Sc κ κi D (Dm ms) w (fun _ h=>.inl h) (fun p hp=>⟨hDin p hp,hκn p hp⟩) j a a' x h1 h2 h3)
   · have hm:(k,e)∈nms:=by
      rcases List.mem_cons.1 (zgn hk) with h1 | h1
      · injection h1 with h1 _; exact absurd h1 hk1
      · exact h1
     obtain ⟨c,hc,hlc,hb0⟩:=n6 _ hm; rw [hκn _ hc]; exact (hL c e hlc).handed (fun _ h=>.inl h) (hScn c (hDn _ hc) (hnfz _ hc)) (fun hb'=>by rw [hb0] at hb'; cases hb')
 · rintro e w' ⟨x,S1,κ1,rfl,hos,htape,hout,hsz,hblk,hsup,hsnew,hslt,hpar,hmine,hinj1,hents,hres⟩
   unfold dRes at h; split at h
   case isFalse=>cases h
   rename_i hflat
   split at h
   case h_2=>cases h
   rename_i ent1 bck hl1 hbn; split at h
   case h_2=>cases h
   rename_i cs1 hb1 he1; split at h
   case h_2=>cases h
   rename_i cs2 hun; injection h with h; subst h; obtain ⟨b1,b2⟩:=zl5 nbk bck hbn; obtain ⟨u1,u2⟩:=znW cs1 cs2 hun
   have hD':∀ p∈nbk,Dm ms' p.2:=fun p hp=>by
    have:p.1∈ids bck:=by rw [b1]; exact List.mem_map.2 ⟨p,hp,rfl⟩
    obtain ⟨q,hq1,hq2⟩:=List.mem_map.1 this; obtain ⟨k,hk1,hk2,_⟩:=b2 q hq1; rw [hq2] at hk1; have:=znO nbk n4 _ _ _ hk1 hp; rw [← this]; show (look ms' k).isSome=true; rw [hk2]; rfl
   have hD1:Dm ms' 1000:=by show (look ms' 1000).isSome=true; rw [hl1]; rfl
   let κ2:Kap:=fun c=>match nbk.find? (fun p=>p.1 == c) with
    | some p=>κ1 p.2
    | none=>κ c
   have k2n:∀ p∈nbk,κ2 p.1=κ1 p.2:=fun p hp=>by
    show (match nbk.find? (fun q=>q.1 == p.1) with | some q=>κ1 q.2 | none=>κ p.1)=_
    cases hf:nbk.find? (fun q=>q.1 == p.1) with
    | none=>exact absurd (List.find?_eq_none.1 hf p hp) (by simp)
    | some q =>
      have hq1:=List.mem_of_find?_eq_some hf; have hq2:q.1=p.1:=by simpa using List.find?_some hf
      have:q.2=p.2:=znO nbk n4 p.1 q.2 p.2 (by rw [← hq2]; exact hq1) hp; show κ1 q.2=κ1 p.2; rw [this]
   have k2o:∀ c,c ∉ nbk.map (·.1)→κ2 c=κ c:=fun c hc=>by
    show (match nbk.find? (fun q=>q.1 == c) with | some q=>κ1 q.2 | none=>κ c)=_
    cases hf:nbk.find? (fun q=>q.1 == c) with
    | none=>rfl
    | some q =>
      have hq1:=List.mem_of_find?_eq_some hf; have hq2:q.1=c:=by simpa using List.find?_some hf
      exact absurd (List.mem_map.2 ⟨q,hq1,hq2⟩) hc
   have hbn':b ∉ nbk.map (·.1):=fun hm=>by obtain ⟨p,hp,e⟩:=List.mem_map.1 hm; exact hnb' p hp e
   have hidset:∀ c,c∈ids ((b,({ ent1 with es:=[cs2] }:Ent)) :: bck)↔c=b∨c∈nbk.map (·.1):=fun c=>by rw [← b1]; simp [ids]
   have hMine:∀ g,Mine w κi (Dm ms) g→w.heap.size≤g∨∃ c cp,c∈nbk.map (·.1)∧D c∧κ c=some (g,cp):=by
    rintro g (h | ⟨k,cp,hk1,hk2,hk3⟩)
    · exact .inl h
    · rcases hms k hk2 with ⟨rfl,-⟩ | ⟨c,hc⟩
      · omega
      · rw [hκn _ hc] at hk3; exact .inr ⟨c,cp,List.mem_map.2 ⟨_,hc,rfl⟩,hDn _ hc,hk3⟩
   let r':Res:={ val:=rv,set:=(b,{ ent1 with es:=[cs2] }) :: bck,frz:=fz,re:=nbk.map (·.1) }
   have hset1:∀ c,c=b∨c∈nbk.map (·.1)→D1 D r' c:=fun c hc=>.inr ((hidset c).2 hc)
   have hrel:CRel S1 w' rv x:=by
    cases rv with
    | new z e es=>simp [AV.flat] at hflat
    | newp z e cs=>simp [AV.flat] at hflat
    | newm e es=>simp [AV.flat] at hflat
    | row b z off n=>simp [AV.flat] at hflat
    | loc b z i o=>simp [AV.flat] at hflat
    | _=>exact hres
   refine ⟨x,S1,κ2,rfl,{
    os:=hos
    tape:=htape
    output:=hout
    size:=hsz
    blk:=fun g hg hbb=>hblk g hg (fun k cp hk hkk=>by
     obtain ⟨c,hc,e1,e2,_⟩:=back k hk; rw [e1] at hkk
     refine hbb c cp (.inl ((hidset c).2 (e2.imp id (fun q=>List.mem_map.2 ⟨_,q,rfl⟩)))) hc hkk)
    sup:=fun g hg=>hsup g (.inl hg)
    snew:=fun g hg=>by
     rcases hsnew g hg with h | h
     · rcases h with h | ⟨b',c,hb',hk⟩
       · exact .inl h
       · exact .inr (.inr ⟨b',c,.inl hb',d2 b' hb',hk⟩)
     · rcases hMine g h with h | ⟨c,cp,q1,q2,q3⟩
       · exact .inr (.inl h)
       · exact .inr (.inr ⟨c,cp,.inr (.inr q1),q2,q3⟩)
    slt:=hslt
    sfrz:=fun b' hb' g c hk=>hsup g (.inr ⟨b',c,hb',hk⟩)
    kold:=fun c _ hn=>k2o c hn
    kout:=fun c hn=>k2o c (fun hm=>hn ((hidset c).2 (.inr hm)))
    knew:=fun c hnew hin g cp hk=>by
     have hm:c∈nbk.map (·.1):=by
      rcases (hidset c).1 hin with rfl | hm
      · exact hnew hDb
      · exact hm
     obtain ⟨p,hp,rfl⟩:=List.mem_map.1 hm; rw [k2n p hp] at hk; rcases hMine g (hmine p.2 g cp (by have:=(n3 p hp).2.1; omega) (hD' p hp) hk) with h | ⟨c,cp,q1,q2,q3⟩
     · exact .inl h
     · exact .inr ⟨c,cp,.inr q1,q2,q3⟩
    one:=fun c c' h1 h2 i1 i2 g cp cp' e1 e2=>by
     have m1:c∈nbk.map (·.1):=by
      rcases (hidset c).1 i1 with rfl | hm
      · exact h1 hDb
      · exact hm
     have m2:c'∈nbk.map (·.1):=by
      rcases (hidset c').1 i2 with rfl | hm
      · exact h2 hDb
      · exact hm
     obtain ⟨p,hp,rfl⟩:=List.mem_map.1 m1; obtain ⟨p',hp',rfl⟩:=List.mem_map.1 m2; rw [k2n p hp] at e1; rw [k2n p' hp'] at e2; have:=hinj1 _ _ g cp cp' (hD' p hp) (hD' p' hp') e1 e2; exact pair_inj2 nbk n5 p.1 p'.1 p.2 hp (by rw [this]; exact hp')
    res:=fun c hc=>(hidset c).2 (.inr hc)
    ents:=fun c e hm=>by
     rcases List.mem_cons.1 hm with hm | hm
     · injection hm with hm1 hm2; subst hm1; subst hm2; obtain ⟨_,hE⟩:=hents 1000 ent1 hl1; rw [k2o c hbn',← hκb,← hpar 1000 (Nat.le_refl _)]; refine box_ren hE hb1 he1 u1 (fun g cp hk=>by rw [hk] at hE; exact hE.notS) (fun j a a' y q1 q2 q3=>u2 S1 κ1 κ2 (Dm ms') (D1 D r') w' (fun p hp=>⟨hset1 p.1 (.inr (List.mem_map.2 ⟨p,hp,rfl⟩)),k2n p hp⟩) j a a' y q1 q2 q3)
     · obtain ⟨q,hq1,hq2,hq3⟩:=b2 _ hm; obtain ⟨_,hE⟩:=hents q e hq2; rw [k2n (c,q) hq1]; exact hE.handed (fun _ h=>h) (fun g cp hk=>by rw [hk] at hE; exact hE.notS) (fun hb'=>by simp only at hq3; rw [hq3] at hb'; cases hb')
    val:=.c hrel },?_⟩
   intro c hc; refine ⟨d2 c hc,fun hm=>?_,by simp⟩; rcases (hidset c).1 hm with rfl | hm
   · exact hbfz hc
   · obtain ⟨p,hp,rfl⟩:=List.mem_map.1 hm; exact hnfz p hp hc
end
end Go.Ab
namespace Go.Ab
open Go.RowKit
variable [Dr]
section
variable {P:Program} {S:Nat→Prop} {κ:Kap} {D:Nat→Prop} {w:World} {L:Nat→Option Ent}
theorem zto {k:Bool} {r r0:Res} {y:Value} {w':World} {S':Nat→Prop} {κ':Kap} (h:toKill k r0=some r) (he:EffAt S κ D w S' κ' r0 y w') (hd:Dis D r0):EffAt S κ D w S' κ' r y w'∧Dis D r:=by
 unfold toKill at h; split at h
 · rename_i b rest hf hk; split at h
   case isFalse=>cases h
   rename_i hc; simp only [Option.some.injEq] at h; subst h
   have hin:∀ c,c∈r0.frz↔c=b:=fun c=>by
    rw [hf]; constructor
    · intro hm; rcases List.mem_cons.1 hm with e | hm
      · exact e
      · have:=List.all_eq_true.1 hc.1 c hm; simpa using this
    · rintro rfl; exact List.mem_cons_self
   have hD1:D1 D { r0 with frz:=[],kill:=some b }=D1 D r0:=by
    funext c; unfold D1; rw [hk]; simp only [hin,ids]; apply propext; constructor
    · rintro (⟨h1,h2,_⟩ | h)
      · exact .inl ⟨h1,by simp,fun e=>h2 (by rw [e])⟩
      · exact .inr h
    · rintro (⟨h1,_,h2⟩ | h)
      · exact .inl ⟨h1,fun e=>h2 (by injection e with e; exact e.symm),by simp⟩
      · exact .inr h
   refine ⟨?_,fun c hm=>by cases hm⟩
   exact {
    os:=he.os
    tape:=he.tape
    output:=he.output
    size:=he.size
    blk:=fun g hg hb=>he.blk g hg (fun b' c hb'=>hb b' c (hb'.elim .inl (fun q=>by rw [hk] at q; cases q)))
    sup:=he.sup
    snew:=fun g hg=>by
     rcases he.snew g hg with h1 | h1 | ⟨b',c',h1,h2⟩
     · exact .inl h1
     · exact .inr (.inl h1)
     · rcases h1 with h1 | h1 | h1
       · exact .inr (.inr ⟨b',c',.inr (.inl (by rw [(hin b').1 h1])),h2⟩)
       · rw [hk] at h1; cases h1
       · exact .inr (.inr ⟨b',c',.inr (.inr h1),h2⟩)
    slt:=he.slt
    sfrz:=fun c hm=>by cases hm
    kold:=he.kold
    kout:=he.kout
    knew:=fun c h1 h2 g c' h3=>by
     rcases he.knew c h1 h2 g c' h3 with h4 | ⟨b0,c0,h4,h5⟩
     · exact .inl h4
     · rcases h4 with h4 | h4
       · rw [hk] at h4; cases h4
       · exact .inr ⟨b0,c0,.inr h4,h5⟩
    one:=he.one
    res:=he.res
    ents:=fun c ent hm=>by rw [hD1]; exact he.ents c ent hm
    val:=by rw [hD1]; exact he.val }
 · simp only [Option.some.injEq] at h; subst h; exact ⟨he,hd⟩
theorem ztC {o:Oper} {ρ:Operand→Value} {u t e:TypeId} {x:Operand} {n:Int} (ho:o.op=.convert u t x) (hx:CRel S w (.sl 1 [[.v (.int .u8 n)]]) (ρ x)) (hu:P.underlying u=some (.slice e))
  (ht:P.underlying t=some .string) (he:P.underlying e=some (.int .u8)):(execOp ρ o).run P w=.ok (.value (.string (byte1 n))) w:=by
 have hy:∃ y,y=ρ x:=⟨_,rfl⟩
 obtain ⟨y,hy⟩:=hy; rw [← hy] at hx
 cases hx with
 | sl _ _ A len cap u' hlen hcap hz ha hr =>
   rcases ha with ha | ⟨a,rfl,_,ha⟩
   · cases ha
   obtain ⟨h1,_⟩:=ha 0 0 _ _ rfl rfl; have h2:=hr 0 0 _ _ rfl rfl; generalize u' 0 0=q at h1 h2; cases h2; simp only [List.length_singleton] at hlen; subst hlen
   have h3:(loadCells a 1).run P w=.ok (([n].map (Value.int .u8)).toArray) w:=run_loadCells_list (P:=P) (w:=w) a [.int .u8 n] (fun j v hv=>by
    match j,hv with
    | 0,hv=>injection hv with hv; subst hv; simpa using h1)
   simp only [execOp,ho,← hy,Sem.run_bind,run_convert_bytes_string w u t e _ _ _ hu he ht,run_bytesToString w a 1 cap [n] h3,Result.andThen_ok]; rfl
theorem aop_sound {C:Cfg} {M:List Nat} {call:zaX} (hcall:CallOK P call) {o:Oper} {E:Operand→AV} {r:Res} {a:Act} {K:Act→World→Prop} {Q:Exit→Act→World→Prop}
  (hS:∀ g,S g→g < w.heap.size) (hok:Dr.ok S w) (hDL:∀ b,D b↔(L b).isSome=true) (hinj:∀ b b' g c c',D b→D b'→κ b=some (g,c)→κ b'=some (g,c')→b=b')
  (hL:∀ b ent,L b=some ent→EntAt S κ D w (κ b) ent) (hE:∀ x∈o.op.operands,VRel S κ D w (E x) (a.eval x)) (h:aop P C M call o E L=some r)
  (hK:∀ y w' S' κ',EffAt S κ D w S' κ' r y w'→Dis D r→K (a.put o.dst y) w'):o.wp P a w K Q:=by
 have hdn:∀ d,(L d).isNone=true→¬ D d:=fun d h hd=>by have:=(hDL d).1 hd; rw [Option.isNone_iff_eq_none] at h; rw [h] at this; cases this
 have still:(∃ y,(execOp a.eval o).run P w=.ok (.value y) w∧VRel S κ D w r.val y∧r.set=[]∧r.kill=none∧r.frz=[]∧r.re=[])→o.wp P a w K Q:=by
  rintro ⟨y,h1,h2,h3,h4,h5,h6⟩
  unfold Oper.wp; rw [h1]; exact hK y w S κ (EffAt.still hS h2 h3 h4 h5 h6) (by intro b hb; rw [h5] at hb; cases hb)
 have valued:∀ y w' S' κ',(execOp a.eval o).run P w=.ok (.value y) w'→EffAt S κ D w S' κ' r y w'→r.frz=[]→o.wp P a w K Q:=by intro y w' S' κ' h1 h2 h3; unfold Oper.wp; rw [h1]; exact hK y w' S' κ' h2 (by intro b hb; rw [h3] at hb; cases hb)
 have nosel:∀ op,o.op=op→(∀ cs b,op≠.select cs b)→∀ cs b,o.op≠.select cs b:=fun op e hn cs b=>by rw [e]; exact hn cs b
 unfold aop at h; split at h
 · rename_i x ho; injection h with h; subst h; exact still ⟨a.eval x,by simp [execOp,ho],hE x (by simp [ho,Op.operands]),rfl,rfl,rfl,rfl⟩
 · rename_i x ho; injection h with h; subst h; exact still ⟨a.eval x,by simp [execOp,ho],hE x (by simp [ho,Op.operands]),rfl,rfl,rfl,rfl⟩
 · rename_i c x y ho; split at h
   case h_2=>cases h
   rename_i t hc; injection h with h; subst h; have h1:=hE c (by simp [ho,Op.operands]); rw [hc] at h1; refine still ⟨if t then a.eval x else a.eval y,by simp [execOp,ho,h1.v_inv,asBool],?_,rfl,rfl,rfl,rfl⟩; cases t
   · exact hE y (by simp [ho,Op.operands])
   · exact hE x (by simp [ho,Op.operands])
 · rename_i t ho; split at h
   case h_2=>cases h
   rename_i d zero n hd hz hn; split at h
   case isFalse=>cases h
   rename_i hc; obtain ⟨h1,h2,h3⟩:=hc; obtain ⟨i,z,hi,hzz,rfl⟩:=zdi hz; split at h
   · obtain ⟨q,w',κ',e1,e2⟩:=arr_sound (P:=P) (t:=t) (d:=d) (r:=r) hS (hdn d h3) h2 h; refine valued q w' S κ' ?_ e2 (aArr_frz h); simp only [execOp,ho,Instr.alloc,Sem.run_bind,zcX hi hzz,Result.andThen_ok]; simp only [Instr.box,Sem.run_bind] at e1; rw [e1]; simp
   injection h with h
   have hbox:∃ q w' κ',(Instr.box t z).run P w=.ok q w'∧EffAt S κ D w S κ' r q w':=by
    have hcl:(AV.agg (z.cells.toList.map .v)).cells=z.cells.toList.map .v:=rfl
    have hrel:VRel S κ D w (AV.agg (z.cells.toList.map .v)) (.agg z.cells):=by obtain ⟨c1,c2,c3⟩:=zfB (S:=S) (w:=w) h2; exact .c (.agg _ _ c1 c2 c3)
    obtain ⟨q,w',κ',e1,e2⟩:=zrJ (P:=P) (t:=t) (d:=d) (r:=r) hS (hdn d h3) (by rw [hcl]; exact h2) (by rw [← h,hcl,h1]) hrel; refine ⟨q,w',κ',?_,e2⟩; have:(Instr.box t z).run P w=(Instr.box t (.agg z.cells)).run P w:=by simp [Instr.box,newVar,Value.cells]
    rw [this]; exact e1
   obtain ⟨q,w',κ',e1,e2⟩:=hbox; refine valued q w' S κ' ?_ e2 (by rw [← h]); simp only [execOp,ho,Instr.alloc,Sem.run_bind,zcX hi hzz,Result.andThen_ok]; simp only [Instr.box,Sem.run_bind] at e1; rw [e1]; simp
 · rename_i t x ho; split at h
   case h_2=>cases h
   rename_i d hd; split at h
   case isFalse=>cases h
   rename_i hc; injection h with h; obtain ⟨q,w',κ',e1,e2⟩:=zrJ (P:=P) (t:=t) (d:=d) (r:=r) hS (hdn d hc.2) hc.1 h.symm (hE x (by simp [ho,Op.operands])); exact valued q w' S κ' (by simp [execOp,ho,e1]) e2 (by rw [← h])
 · rename_i t ps ho
   obtain ⟨y,e1,e2,e3,e4,e5⟩:=zsK (ρ:=a.eval) h (fun p hp=>hE p.2 (by
    simp only [ho,Op.operands]; simp
    exact ⟨p.1,by simpa using hp⟩))
   refine still ⟨y,?_,e2,e3,e4,e5⟩; simp only [execOp,ho]; simp only [zdd] at e1; simp [e1]
 · rename_i t len ps ho
   have hps:∀ p∈ps,VRel S κ D w (E p.2) (a.eval p.2):=fun p hp=>hE p.2 (by
    simp only [ho,Op.operands]; simp
    exact ⟨p.1,by simpa using hp⟩)
   split at h
   case h_2=>cases h
   rename_i d hd; split at h
   · split at h
     case isFalse=>cases h
     rename_i hc; obtain ⟨y,w',κ',e1,e2⟩:=zoa (E:=fun x=>nrmP P t (E x)) (ρ:=a.eval) hS (hdn d hc) h (fun p hp=>nrmP_rel (hps p hp)); refine valued y w' S κ' ?_ e2 ?_
     · simp only [execOp,ho]; simp only [zdd] at e1; simp [e1]
     · unfold zg1 at h
       repeat' (split at h)
       all_goals first | (injection h with h; subst h; rfl) | cases h
   · obtain ⟨y,w',S',e1,e2⟩:=aLit_sound (E:=fun x=>nrmP P t (E x)) (ρ:=a.eval) hS h (fun p hp=>nrmP_rel (hps p hp)); refine valued y w' S' κ ?_ e2 ?_
     · simp only [execOp,ho]; simp only [zdd] at e1; simp [e1]
     · unfold aLit at h
       repeat' (split at h)
       all_goals first | (injection h with h; subst h; rfl) | cases h
 · rename_i t x ho; obtain ⟨y,e1,e2,e3,e4,e5⟩:=zlb h (hE x (by simp [ho,Op.operands])) hL; exact still ⟨y,by simp [execOp,ho,e1],e2,e3,e4,e5⟩
 · rename_i t x y ho; obtain ⟨w',e1,e2⟩:=zsT hS h (nrmS_rel (hE y (by simp [ho,Op.operands]))) (hE x (by simp [ho,Op.operands])) hL; unfold Oper.wp; have:(execOp a.eval o).run P w=.ok .skip w':=by simp [execOp,ho,e1]
   rw [this]; refine hK undef w' S κ (e2 undef) ?_
   have hf:r.frz=[]:=by
    unfold aStore at h
    repeat' (split at h)
    all_goals first | (injection h with h; subst h; rfl) | cases h
   intro b hb; rw [hf] at hb; cases hb
 · rename_i x ho; split at h
   · rename_i cs hx; injection h with h; subst h; have h1:=hE x (by simp [ho,Op.operands]); rw [hx] at h1; have hf:=h1.fp_inv; refine still ⟨a.eval x,?_,h1,rfl,rfl,rfl,rfl⟩; simp only [execOp,ho]; generalize a.eval x=q at hf
     cases hf with
     | fp _ ad u hS' hc hr=>rfl
   · rename_i b z i oo hx; injection h with h; subst h; have h1:=hE x (by simp [ho,Op.operands]); rw [hx] at h1; obtain ⟨g,c,_,_,he⟩:=h1.loc_inv; refine still ⟨a.eval x,?_,h1,rfl,rfl,rfl,rfl⟩; simp only [execOp,ho,he]; rfl
   · rename_i z es hx; injection h with h; subst h; have h1:=hE x (by simp [ho,Op.operands]); rw [hx] at h1; obtain ⟨_,_,hf,_⟩:=h1.fa_inv.fa_data; refine still ⟨a.eval x,?_,h1,rfl,rfl,rfl,rfl⟩; simp only [execOp,ho,hf]; rfl
   · rename_i q hx; injection h with h; subst h; have h1:=hE x (by simp [ho,Op.operands]); rw [hx] at h1; refine still ⟨a.eval x,?_,h1,rfl,rfl,rfl,rfl⟩; simp only [execOp,ho,h1.v_inv]; rfl
   · cases h
 · rename_i x i ho; split at h
   case h_2=>cases h
   rename_i vs hx; split at h
   case h_2=>cases h
   rename_i av hv; injection h with h; subst h; have h1:=hE x (by simp [ho,Op.operands]); rw [hx] at h1; obtain ⟨arr,he,hl,hr⟩:=h1.tup_inv; have hlt:i < arr.size:=by have:=(List.getElem?_eq_some_iff.1 hv).1; omega
   refine still ⟨arr[i],?_,hr i av _ hv (Array.getElem?_eq_getElem hlt),rfl,rfl,rfl,rfl⟩; simp [execOp,ho,he,Instr.extract,hlt]
 · rename_i s x f ho; obtain ⟨y,e1,e2,e3,e4,e5⟩:=zsM h (hE x (by simp [ho,Op.operands])); exact still ⟨y,by simp [execOp,ho,e1],e2,e3,e4,e5⟩
 · rename_i s x f ho; split at h
   case h_2=>cases h
   rename_i cs fs hx hu; split at h
   case h_2=>cases h
   rename_i fd hfd; split at h
   case h_2=>cases h
   rename_i av hav; injection h with h; subst h; have h1:=hE x (by simp [ho,Op.operands]); rw [hx] at h1; obtain ⟨arr,he,hl,h11,hr⟩:=h1.agg_inv; obtain ⟨y,e1,e2⟩:=zq2 (P:=P) (w:=w) hl h11 hr hav; refine still ⟨y,?_,e2,rfl,rfl,rfl,rfl⟩; simp [execOp,ho,he,Instr.field,run_underlying hu,hfd,asAgg,e1]
 · rename_i t x ix ho; obtain ⟨y,e1,e2,e3,e4,e5⟩:=zj8 h (hE x (by simp [ho,Op.operands])) (hE ix (by simp [ho,Op.operands])); exact still ⟨y,by simp [execOp,ho,e1],e2,e3,e4,e5⟩
 · rename_i t x ix ho; split at h
   · rename_i cs k n len e hx hix hu; split at h
     case h_2=>cases h
     rename_i sz hs; split at h
     case isFalse=>cases h
     rename_i hn; split at h
     case h_2=>cases h
     rename_i av hav; injection h with h; subst h; have h1:=hE x (by simp [ho,Op.operands]); have h2:=hE ix (by simp [ho,Op.operands]); rw [hx] at h1; rw [hix] at h2; obtain ⟨arr,he,hl,h11,hr⟩:=h1.agg_inv; obtain ⟨y,e1,e2⟩:=zq2 (P:=P) (w:=w) hl h11 hr hav; refine still ⟨y,?_,e2,rfl,rfl,rfl,rfl⟩; simp [execOp,ho,he,h2.v_inv,Instr.index,asIntOf,run_underlying hu,hn,zbk hs,e1]
   · exact still (zeE (nosel _ ho (by simp)) hE h)
 · rename_i t x lo hi ho; split at h
   · exact still (zeE (nosel _ ho (by simp)) hE h)
   · rename_i av hne
     have opt:∀ q:Option Operand,(∀ y,q=some y→y∈o.op.operands)→(q.map E=none∧q.map a.eval=none)∨∃ b y,q.map E=some b∧q.map a.eval=some y∧VRel S κ D w b y:=by
      intro q hq
      cases q with
      | none=>exact .inl ⟨rfl,rfl⟩
      | some y=>exact .inr ⟨_,_,rfl,rfl,hE y (hq y rfl)⟩
     obtain ⟨y,e1,e2,e3,e4,e5⟩:=zsS h (hE x (by simp [ho,Op.operands])) (opt lo (fun y hy=>by simp [ho,Op.operands,hy])) (opt hi (fun y hy=>by simp [ho,Op.operands,hy])); exact still ⟨y,by simp [execOp,ho,e1],e2,e3,e4,e5⟩
 · rename_i f first cap ho
   split at h
   case isFalse=>cases h
   rename_i hf; injection h with h; subst h; have hf0:first=#[]:=Array.eq_empty_of_size_eq_zero hf
   subst hf0; refine still ⟨.func (.func f) #[] (cap.map a.eval),by simp [execOp,ho,Instr.makeFunc],.fn f _ _ (by simp) ?_,rfl,rfl,rfl,rfl⟩; intro j c x hj hx; simp at hj hx; obtain ⟨q,hq,rfl⟩:=hj; obtain ⟨q',hq',rfl⟩:=hx; rw [hq] at hq'; injection hq' with hq'; subst hq'; exact hE q (by simp [ho,Op.operands]; exact Array.mem_of_getElem? hq)
 · rename_i t l c ho; split at h
   case h_2=>cases h
   rename_i d hd; split at h
   case isFalse=>cases h
   rename_i hc; split at h
   · obtain ⟨y,w',S',e1,e2⟩:=zsO hS h (hE l (by simp [ho,Op.operands])) (hE c (by simp [ho,Op.operands])); refine valued y w' S' κ (by simp [execOp,ho,e1]) e2 ?_; unfold aMakeL at h
     repeat' (split at h)
     all_goals first | (injection h with h; subst h; rfl) | cases h
   obtain ⟨y,w',κ',e1,e2⟩:=zty hS (hdn d hc) h (hE l (by simp [ho,Op.operands])) (hE c (by simp [ho,Op.operands])); refine valued y w' S κ' (by simp [execOp,ho,e1]) e2 ?_; unfold aMake at h
   repeat' (split at h)
   all_goals first | (injection h with h; subst h; rfl) | cases h
 · rename_i args argTypes ho; split at h
   case h_2=>cases h
   rename_i d s x t t' hd ha ht; split at h
   case isFalse=>cases h
   rename_i hc; obtain ⟨rfl,hdd⟩:=hc; have ha':args=#[s,x]:=by rw [← Array.toArray_toList (xs:=args),ha]
   have ht':argTypes=#[t,t]:=by rw [← Array.toArray_toList (xs:=argTypes),ht]
   subst ha'; subst ht'; obtain ⟨y,w',κ',e1,e2⟩:=zsp (ty:=o.type) hS (hdn d hdd) h (hE s (by simp [ho,Op.operands,Call.operands])) (hE x (by simp [ho,Op.operands,Call.operands])) hL; refine valued y w' S κ' ?_ e2 ?_
   · simp [execOp,ho,resolve,invoke,builtin,e1]
   · unfold zfI at h
     repeat' (split at h)
     all_goals first | (injection h with h; subst h; rfl) | cases h
 · rename_i args argTypes ho; split at h
   case h_2=>cases h
   rename_i s x t tr ha ht; have ha':args=#[s,x]:=by rw [← Array.toArray_toList (xs:=args),ha]
   subst ha'; obtain ⟨y,w',e1,e2⟩:=zts (P:=P) (ty:=o.type) (ts:=argTypes) hS (by rw [← Array.getElem?_toList,ht]; rfl) h (hE s (by simp [ho,Op.operands,Call.operands])) (hE x (by simp [ho,Op.operands,Call.operands])) hL; refine valued y w' S κ ?_ e2 ?_
   · simp [execOp,ho,resolve,invoke,builtin,e1]
   · unfold aCopy at h
     repeat' (split at h)
     all_goals first | (injection h with h; subst h; rfl) | cases h
 · rename_i args argTypes ho; split at h
   case h_2=>cases h
   rename_i s t tr ha ht; have ha':args=#[s]:=by rw [← Array.toArray_toList (xs:=args),ha]
   subst ha'; obtain ⟨y,w',e1,e2⟩:=zsL (P:=P) (ty:=o.type) (ts:=argTypes) hS (by rw [← Array.getElem?_toList,ht]; rfl) h (hE s (by simp [ho,Op.operands,Call.operands])) hL; refine valued y w' S κ ?_ e2 ?_
   · simp [execOp,ho,resolve,invoke,builtin,e1]
   · unfold aClear at h
     repeat' (split at h)
     all_goals first | (injection h with h; subst h; rfl) | cases h
 · rename_i args argTypes ho; split at h
   case h_2=>cases h
   rename_i s t ha ht; split at h
   · exact still (zeE (nosel _ ho (by simp)) hE h)
   · rename_i av e hu hne; have ha':args=#[s]:=by rw [← Array.toArray_toList (xs:=args),ha]
     have ht':argTypes=#[t]:=by rw [← Array.toArray_toList (xs:=argTypes),ht]
     subst ha'; subst ht'; have h1:=hE s (by simp [ho,Op.operands,Call.operands])
     have hlen:∃ A n c,a.eval s=.slice A n c∧r={ val:=.v (.int .i64 n) }:=by
      unfold aLen at h; split at h
      · rename_i z es hh; injection h with h; rw [hh] at h1; have:=h1.sl_inv; generalize a.eval s=q at this
        cases this with
        | sl _ _ A len cap u hlen=>exact ⟨A,len,cap,rfl,by rw [← h,hlen]⟩
      · rename_i b z off n hh; injection h with h; rw [hh] at h1; generalize a.eval s=q at h1
        cases h1 with
        | c h=>cases h
        | row0=>exact ⟨none,0,0,rfl,by rw [← h]⟩
        | row _ _ _ _ g c off' cap=>exact ⟨_,n,cap,rfl,by rw [← h]⟩
      · cases h
     obtain ⟨A,n,c,he,hr⟩:=hlen; subst hr; exact still ⟨.int .i64 n,by simp [execOp,ho,resolve,invoke,builtin,Builtin.len_,he,run_underlying hu,goInt],.c (.v _),rfl,rfl,rfl,rfl⟩
   · rename_i av kt et hu hne; have ha':args=#[s]:=by rw [← Array.toArray_toList (xs:=args),ha]
     have ht':argTypes=#[t]:=by rw [← Array.toArray_toList (xs:=argTypes),ht]
     subst ha'; subst ht'; obtain ⟨y,e1,e2,e3,e4,e5⟩:=ztx (ty:=o.type) hu h (hE s (by simp [ho,Op.operands,Call.operands])) hL; exact still ⟨y,by simp [execOp,ho,resolve,invoke,builtin,e1],e2,e3,e4,e5⟩
   · cases h
 · rename_i args argTypes ho; split at h
   case h_2=>cases h
   rename_i m k t tr ha ht; have ha':args=#[m,k]:=by rw [← Array.toArray_toList (xs:=args),ha]
   subst ha'; obtain ⟨y,w',S',e1,e2,e3⟩:=ztw (P:=P) (ty:=o.type) (ts:=argTypes) hS hinj (by rw [← Array.getElem?_toList,ht]; rfl) h (hE m (by simp [ho,Op.operands,Call.operands])) (hE k (by simp [ho,Op.operands,Call.operands])) hL; refine valued y w' S' κ ?_ e2 e3; simp [execOp,ho,resolve,invoke,builtin,e1]
 · rename_i t ho; split at h
   case h_2=>cases h
   rename_i d hd; split at h
   case isFalse=>cases h
   rename_i hc; obtain ⟨y,w',κ',e1,e2,e3⟩:=zsP hS (hdn d hc) h; exact valued y w' S κ' (by simp [execOp,ho,e1]) e2 e3
 · rename_i t m k ok ho; obtain ⟨y,e1,e2,e3,e4,e5⟩:=zsN h (hE m (by simp [ho,Op.operands])) (hE k (by simp [ho,Op.operands])) hL; exact still ⟨y,by simp [execOp,ho,e1],e2,e3,e4,e5⟩
 · rename_i t m k x ho; obtain ⟨w',S',e1,e2,e3⟩:=zoV hS hDL hinj h (hE m (by simp [ho,Op.operands])) (hE k (by simp [ho,Op.operands])) (hE x (by simp [ho,Op.operands])) hL; unfold Oper.wp; have:(execOp a.eval o).run P w=.ok .skip w':=by simp [execOp,ho,e1]
   rw [this]; exact hK undef w' S' κ (e2 undef) e3
 · rename_i t m k x ho; obtain ⟨w',S',e1,e2,e3⟩:=zoV hS hDL hinj h (hE m (by simp [ho,Op.operands])) (hE k (by simp [ho,Op.operands])) (hE x (by simp [ho,Op.operands])) hL; unfold Oper.wp; have:(execOp a.eval o).run P w=.ok .skip w':=by simp [execOp,ho,e1]
   rw [this]; exact hK undef w' S' κ (e2 undef) e3
 · rename_i g args argTypes ho; split at h
   case h_2=>cases h
   rename_i f cap hg; split at h
   · exact still (zeE (nosel _ ho (by simp)) hE h)
   · rename_i hb; have h1:=hE g (by simp [ho,Op.operands,Call.operands]); rw [hg] at h1; obtain ⟨caps,he,hcl,hcr⟩:=h1.fn_inv
     have hvals:∀ (j:Nat) (av:AV) (x:Value),(args.toList.map E++cap)[j]?=some av→(args.map a.eval++caps)[j]?=some x→VRel S κ D w av x:=by
      intro j av x hj hx; rw [List.getElem?_append] at hj; rw [Array.getElem?_append] at hx; simp only [List.length_map,Array.length_toList] at hj; simp only [Array.size_map] at hx; split at hj
      · rename_i hlt; rw [if_pos hlt] at hx; simp at hj hx; obtain ⟨q,hq,rfl⟩:=hj; obtain ⟨q',hq',rfl⟩:=hx; rw [hq] at hq'; injection hq' with hq'; subst hq'; exact hE q (by simp [ho,Op.operands,Call.operands]; exact .inr (Array.mem_of_getElem? hq))
      · rename_i hlt; rw [if_neg hlt] at hx; exact hcr _ av x hj hx
     have hvals':∀ (j:Nat) (av:AV) (x:Value),(nrmA P (rawT C f argTypes) (args.toList.map E)++cap)[j]?=some av→(args.map a.eval++caps)[j]?=some x→VRel S κ D w av x:=by
      intro j av x hj hx; rw [List.getElem?_append] at hj; split at hj
      · rename_i hlt; obtain ⟨a0,ha0,hc⟩:=zmq P _ _ j av hj
        have h0:(args.toList.map E++cap)[j]?=some a0:=by rw [List.getElem?_append,if_pos (by rw [zeL] at hlt; exact hlt)]; exact ha0
        rcases hc with rfl | ⟨t',rfl⟩
        · exact hvals j _ x h0 hx
        · exact zj0 (hvals j _ x h0 hx)
      · rename_i hlt; refine hvals j av x ?_ hx; rw [List.getElem?_append,if_neg (by rw [zeL] at hlt; exact hlt)]; rw [zeL] at hj; exact hj
     have enter:enters P f=true→∀ Q',Calls P f (args.map a.eval++caps) w Q'→(∀ e w',Q' e w'→∃ x,e=.returned x∧K (a.put o.dst x) w')→o.wp P a w K Q:=by
      intro hb' Q' hcalls hQ; unfold enters at hb'; split at hb'
      case h_2=>cases hb'
      rename_i fn hfn; simp only [Bool.and_eq_true,Bool.not_eq_true'] at hb'; have hbody:¬ fn.body=none:=by cases hq:fn.body <;> simp_all
      have hname:¬ fn.name = "runtime.NumGoroutine":=by simpa using hb'.2
      have hrun:(execOp a.eval o).run P w=.ok (.enter f (args.map a.eval++caps)) w:=by simp [execOp,ho,resolve,he,Deferred.ofValue,invoke,callFunc,hfn,hbody,hname]
      unfold Oper.wp; rw [hrun]; simp only [Oper.upon]; refine hcalls.mono ?_; intro e w' hq; obtain ⟨x,rfl,hk⟩:=hQ e w' hq; exact hk
     have done:∀ (d:Option Nat) (k:Bool) (r0:Res),(∀ d',d=some d'→¬ D d')→aCall C call L d f (nrmA P (rawT C f argTypes) (args.toList.map E)++cap)=some r0→toKill k r0=some r→o.wp P a w K Q:=by
      intro d k r0 hd hc htk; obtain ⟨hb',hcalls⟩:=ztr hcall hS hok hDL hinj hd hL hc (vals:=args.map a.eval++caps) (by simp [hcl,zeL]) hvals'; refine enter hb' _ hcalls ?_
      rintro e w' ⟨x,S',κ',rfl,h2,h3⟩
      obtain ⟨h4,h5⟩:=zto htk h2 h3; exact ⟨x,rfl,hK x w' S' κ' h4 h5⟩
     split at h
     · rename_i k0 hdp; split at h
       case isFalse=>cases h
       obtain ⟨hb',hcalls⟩:=ztv hcall hS hok hDL hinj hL h (vals:=args.map a.eval++caps) (by simp [hcl,zeL]) hvals'; refine enter hb' _ hcalls ?_
       rintro e w' ⟨x,S',κ',rfl,h2,h3⟩
       exact ⟨x,rfl,hK x w' S' κ' h2 h3⟩
     split at h
     · rename_i d hd; split at h
       case isFalse=>cases h
       rename_i hdd; split at h
       case h_2=>cases h
       rename_i r0 hc; exact done (some d) (M.contains d) r0 (fun d' hd'=>by injection hd' with hd'; subst hd'; exact hdn d hdd) hc h
     · exact done none false r (fun d' hd'=>by cases hd') h rfl
 · rename_i u t x ho; split at h
   · rename_i n hx; split at h
     · rename_i e hu ht; split at h
       case h_2=>cases h
       rename_i he; injection h with h; subst h; refine still ⟨.string (byte1 n),?_,.c (.v _),rfl,rfl,rfl,rfl⟩; have h1:=hE x (by simp [ho,Op.operands]); rw [hx] at h1; exact ztC ho h1.sl_inv hu ht he
     · cases h
   · exact still (zeE (fun cs b e=>by simp_all) hE h)
 · rename_i op t x y u ho; split at h
   · rename_i cs ds hx hy; have h1:=hE x (by simp [ho,Op.operands]); have h2:=hE y (by simp [ho,Op.operands]); rw [hx] at h1; rw [hy] at h2; obtain ⟨b,e1,e2⟩:=aEq_sound (o:=o) (ρ:=a.eval) ho h h1 h2; subst e2; exact still ⟨.bool b,e1,.c (.v _),rfl,rfl,rfl,rfl⟩
   · split at h
     · rename_i r0 hn; injection h with h; subst h; obtain ⟨b,e1,e2⟩:=zte (o:=o) (ρ:=a.eval) ho hn (hE x (by simp [ho,Op.operands])) (hE y (by simp [ho,Op.operands])); subst e2; exact still ⟨.bool b,e1,.c (.v _),rfl,rfl,rfl,rfl⟩
     · exact still (zeE (fun cs b e=>by simp_all) hE h)
 · cases h
 · rename_i hsel _; exact still (zeE (fun cs b e=>by simp_all) hE h)
end
end Go.Ab
namespace Go.Ab
open Go.RowKit
structure Shape (o:Oper) (L:Nat→Option Ent) (r:Res):Prop where
 kill:∀ b,r.kill=some b→b ∉ ids r.set∧b < 1000
 set:∀ b∈ids r.set,(L b).isSome=true∨o.dst=some b
 frz:∀ b∈r.frz,b < 1000
 re:∀ b∈r.re,b < 1000
theorem Shape.none {o:Oper} {L:Nat→Option Ent} {r:Res} (h1:r.set=[]) (h2:r.kill=none) (h3:r.frz=[]) (h4:r.re=[]:=by rfl):Shape o L r:=
 ⟨(fun b h=>by rw [h2] at h; cases h),(fun b h=>by simp [ids,h1] at h),(fun b h=>by rw [h3] at h; cases h),(fun b h=>by rw [h4] at h; cases h)⟩
theorem Shape.one {o:Oper} {L:Nat→Option Ent} {r:Res} {d:Nat} {e:Ent} (h1:r.set=[(d,e)]) (hd:(L d).isSome=true∨o.dst=some d) (h2:∀ b,r.kill=some b→b≠d∧b < 1000) (h3:r.frz=[]) (h4:r.re=[]:=by rfl):Shape o L r:=
 ⟨fun b h=>⟨(fun hm=>by simp [ids,h1] at hm; exact (h2 b h).1 hm),(h2 b h).2⟩,(fun b h=>by simp [ids,h1] at h; subst h; exact hd),(fun b h=>by rw [h3] at h; cases h),(fun b h=>by rw [h4] at h; cases h)⟩
theorem zpc {L:Nat→Option Ent} {wr:List Nat}:∀ (args:List AV) (k:Nat) (as:List AV) (ms:Mem) (bk:List (Nat×Nat)) (fz:List Nat),zbw L wr k args=some (as,ms,bk,fz)→∀ p∈bk,(L p.1).isSome=true:=by
 intro args
 induction args with
 | nil=>intro k as ms bk fz h p hp; simp [zbw] at h; obtain ⟨_,_,rfl,_⟩:=h; cases hp
 | cons a r ih =>
   intro k as ms bk fz h p hp; simp only [zbw] at h
   cases hr:zbw L wr (k+1) r with
   | none=>simp [hr] at h
   | some q =>
     obtain ⟨as0,ms0,bk0,fz0⟩:=q; simp only [hr] at h; have i:=ih (k+1) as0 ms0 bk0 fz0 hr; split at h <;> rename_i hcnd <;> clear hcnd
     · split at h
       · rename_i b z
         cases hl:L b with
         | none=>simp [hl] at h
         | some ent =>
           simp only [hl] at h; split at h
           case isFalse=>cases h
           simp only [Option.some.injEq,Prod.mk.injEq] at h; obtain ⟨_,_,rfl,_⟩:=h; rcases List.mem_cons.1 hp with rfl | hp
           · simp [hl]
           · exact i p hp
       · rename_i b z off n
         cases hl:L b with
         | none=>simp [hl] at h
         | some ent =>
           simp only [hl] at h; split at h
           case isFalse=>cases h
           simp only [Option.some.injEq,Prod.mk.injEq] at h; obtain ⟨_,_,rfl,_⟩:=h; rcases List.mem_cons.1 hp with rfl | hp
           · simp [hl]
           · exact i p hp
       · rename_i b
         cases hl:L b with
         | none=>simp [hl] at h
         | some ent =>
           simp only [hl] at h; split at h
           case isFalse=>cases h
           simp only [Option.some.injEq,Prod.mk.injEq] at h; obtain ⟨_,_,rfl,_⟩:=h; rcases List.mem_cons.1 hp with rfl | hp
           · simp [hl]
           · exact i p hp
       · split at h
         case h_2=>cases h
         rename_i b z f hsl
         cases hl:L b with
         | none=>simp [hl] at h
         | some ent =>
           simp only [hl] at h; split at h
           case isFalse=>cases h
           simp only [Option.some.injEq,Prod.mk.injEq] at h; obtain ⟨_,_,rfl,_⟩:=h; rcases List.mem_cons.1 hp with rfl | hp
           · simp [hl]
           · exact i p hp
     · split at h
       · split at h
         · rename_i b z n
           cases hl:L b with
           | none=>simp [hl] at h
           | some ent =>
             simp only [hl] at h; split at h
             case isFalse=>cases h
             simp only [Option.some.injEq,Prod.mk.injEq] at h; obtain ⟨_,_,rfl,_⟩:=h; rcases List.mem_cons.1 hp with rfl | hp
             · simp [hl]
             · exact i p hp
         · cases h
       cases hs:snap L 5 a with
       | none=>simp [hs] at h
       | some a'=>simp only [hs,Option.some.injEq,Prod.mk.injEq] at h; obtain ⟨_,_,rfl,_⟩:=h; exact i p hp
theorem zrD {L:Nat→Option Ent} {wr:List Nat} {args:List AV} {k:Nat} {as:List AV} {ms:Mem} {bk:List (Nat×Nat)} {fz:List Nat} (h:zbw L wr k args=some (as,ms,bk,fz)):(∀ p∈bk,p.2 < 1000→p.1 < 1000)∧(bk.map (·.1)).Nodup:=by
 have key:∀ (args:List AV) (k:Nat) (as:List AV) (ms:Mem) (bk:List (Nat×Nat)) (fz:List Nat),zbw L wr k args=some (as,ms,bk,fz)→(∀ p∈bk,p.2 < 1000→p.1 < 1000)∧(bk.map (·.1)).Nodup:=by
  intro args
  induction args with
  | nil=>intro k as ms bk fz h; simp [zbw] at h; obtain ⟨_,_,rfl,_⟩:=h; simp
  | cons a r ih =>
    intro k as ms bk fz h; simp only [zbw] at h
    cases hr:zbw L wr (k+1) r with
    | none=>simp [hr] at h
    | some q =>
      obtain ⟨as0,ms0,bk0,fz0⟩:=q; simp only [hr] at h; obtain ⟨i1,i2⟩:=ih (k+1) as0 ms0 bk0 fz0 hr
      have cons:∀ (b m:Nat),(m < 1000→b < 1000)→(bk0.all (fun p=>p.1≠b))=true→(∀ p∈(b,m) :: bk0,p.2 < 1000→p.1 < 1000)∧(((b,m) :: bk0).map (·.1)).Nodup:=by
       intro b m hbm hall; refine ⟨fun p hp=>?_,?_⟩
       · rcases List.mem_cons.1 hp with rfl | hp
         · exact hbm
         · exact i1 p hp
       · simp only [List.map_cons,List.nodup_cons]; refine ⟨fun hm=>?_,i2⟩; obtain ⟨q,hq,e⟩:=List.mem_map.1 hm; have:=List.all_eq_true.1 hall q hq; simp at this; exact this e
      split at h
      · split at h
        · split at h
          · split at h
            · rename_i hc; simp only [Option.some.injEq,Prod.mk.injEq] at h; obtain ⟨_,_,rfl,_⟩:=h; exact cons _ _ (by omega) hc.2.2.2
            · cases h
          · cases h
        · split at h
          · split at h
            · rename_i hc; simp only [Option.some.injEq,Prod.mk.injEq] at h; obtain ⟨_,_,rfl,_⟩:=h; exact cons _ _ (by omega) hc.2.2.2
            · cases h
          · cases h
        · split at h
          · split at h
            · rename_i hc; simp only [Option.some.injEq,Prod.mk.injEq] at h; obtain ⟨_,_,rfl,_⟩:=h; exact cons _ _ (by omega) hc.2.2
            · cases h
          · cases h
        · split at h
          case h_2=>cases h
          split at h
          · split at h
            · rename_i hc; simp only [Option.some.injEq,Prod.mk.injEq] at h; obtain ⟨_,_,rfl,_⟩:=h; exact cons _ _ (by omega) hc.2.2.2
            · cases h
          · cases h
      · split at h
        · split at h
          · split at h
            · split at h
              · rename_i hc; simp only [Option.some.injEq,Prod.mk.injEq] at h; obtain ⟨_,_,rfl,_⟩:=h; exact cons _ _ (fun _=>hc.2.2.2.2.1) hc.2.2.2.2.2.2
              · cases h
            · cases h
          · cases h
        · split at h
          · simp only [Option.some.injEq,Prod.mk.injEq] at h; obtain ⟨_,_,rfl,_⟩:=h; exact ⟨i1,i2⟩
          · cases h
 exact key args k as ms bk fz h
theorem zoS {C:Cfg} {call:zaX} {o:Oper} {L:Nat→Option Ent} {f:FuncId} {args:List AV} {r:Res} (hdn:∀ d,o.dst=some d→(L d).isSome=false) (h:aCall C call L o.dst f args=some r):Shape o L r:=by
 unfold aCall at h; split at h
 · cases h
 · rename_i as ms bk fz hp; split at h
   case isFalse=>cases h
   split at h
   · cases h
   · split at h
     · cases h
     · rename_i back hback; obtain ⟨b1,b2⟩:=zl6 hback; obtain ⟨hgv,hnd⟩:=zrD hp
       have hb:∀ b∈ids back,(L b).isSome=true:=by intro b hb; rw [b1] at hb; obtain ⟨p,hp',rfl⟩:=List.mem_map.1 hb; exact zpc args 0 as ms bk fz hp p (zcr.1 hp').1
       split at h
       case isFalse=>cases h
       rename_i hall; have hfz:=fun b hb=>of_decide_eq_true (List.all_eq_true.1 hall b hb)
       split at h
       case h_2=>cases h
       rename_i res hres; obtain ⟨hkr,hgk⟩:=zpl h (znC hres); subst hkr
       have hk:∀ b,(zcC bk).head?=some b→b ∉ ids back∧b < 1000∧(L b).isSome=true:=by
        intro b hb'; obtain ⟨k,q1,q2⟩:=zfL.1 ((hgk b).2 hb'); refine ⟨fun hm=>?_,hgv _ q1 q2,zpc args 0 as ms bk fz hp _ q1⟩; rw [b1] at hm; obtain ⟨p,hp',e⟩:=List.mem_map.1 hm; obtain ⟨p1,p2⟩:=zcr.1 hp'
        have:p=(b,k):=by
         have nd:∀ l:List (Nat×Nat),(l.map (·.1)).Nodup→∀ x y,x∈l→y∈l→x.1=y.1→x=y:=by
          intro l hn
          induction l with
          | nil=>intro x y h; cases h
          | cons q l ihl =>
            intro x y h1 h2 e; simp only [List.map_cons,List.nodup_cons] at hn; rcases List.mem_cons.1 h1 with rfl | h1'
            · rcases List.mem_cons.1 h2 with rfl | h2'
              · rfl
              · exact absurd (List.mem_map.2 ⟨_,h2',e.symm⟩) hn.1
            · rcases List.mem_cons.1 h2 with rfl | h2'
              · exact absurd (List.mem_map.2 ⟨_,h1',e⟩) hn.1
              · exact ihl hn.2 x y h1' h2' e
         exact nd bk hnd p (b,k) p1 q1 e
        rw [this] at p2; simp at p2; omega
       have fin:∀ (v:AV) (fz':List Nat),(∀ b∈fz',b < 1000)→Shape o L { val:=v,set:=back,frz:=fz',kill:=(zcC bk).head? }:=by intro v fz' hf; exact ⟨fun b hk'=>⟨(hk b hk').1,(hk b hk').2.1⟩,fun b hm=>.inl (hb b hm),hf,fun b hm=>by cases hm⟩
       have fin2:∀ (v:AV) (d:Nat) (e:Ent),o.dst=some d→(L d).isSome=false→∀ fz',(∀ b∈fz',b < 1000)→Shape o L { val:=v,set:=(d,e) :: back,frz:=fz',kill:=(zcC bk).head? }:=by
        intro v d e hd hn fz' hf; refine ⟨fun b hk'=>⟨fun hm=>?_,(hk b hk').2.1⟩,fun b hm=>?_,hf,fun b hm=>by cases hm⟩
        · simp only [ids,List.map_cons,List.mem_cons] at hm; rcases hm with rfl | hm
          · have:=(hk _ hk').2.2; rw [hn] at this; cases this
          · exact (hk b hk').1 hm
        · simp only [ids,List.map_cons,List.mem_cons] at hm; rcases hm with rfl | hm
          · exact .inr hd
          · exact .inl (hb b hm)
       unfold zjY at hres; split at hres
       · injection hres with hres; subst hres; exact fin2 _ _ _ (by assumption) (hdn _ (by assumption)) _ hfz
       · injection hres with hres; subst hres; exact fin2 _ _ _ (by assumption) (hdn _ (by assumption)) _ hfz
       · injection hres with hres; subst hres; exact fin2 _ _ _ (by assumption) (hdn _ (by assumption)) _ hfz
       · cases hres
       · cases hres
       · cases hres
       · split at hres
         · injection hres with hres; subst hres; exact fin _ _ hfz
         · cases hres
       · split at hres
         · injection hres with hres; subst hres; exact fin _ _ hfz
         · cases hres
       · cases hres
       · injection hres with hres; subst hres; exact fin _ _ hfz
theorem ztu {call:zaX} {o:Oper} {L:Nat→Option Ent} {f:FuncId} {k0:Nat} {args:List AV} {r:Res} (h:aDeep call L f k0 args=some r):Shape o L r:=by
 unfold aDeep at h; split at h
 case h_2=>cases h
 rename_i b z hk0; split at h
 case h_2=>cases h
 rename_i ent hlb; split at h
 case isFalse=>cases h
 split at h
 case h_2=>cases h
 rename_i cs hes; split at h
 case h_2=>cases h
 rename_i cs' nms nbk as fz hnest hda; split at h
 case isFalse=>cases h
 rename_i hcond; obtain ⟨hz,hbx,hnb,hfz⟩:=hcond; split at h
 case h_2=>cases h
 rename_i rv ms' hc; obtain ⟨n1,n2,n3,n4,n5,n6,n7⟩:=zr9 cs 900 cs' nms nbk hnest; unfold dRes at h; split at h
 case isFalse=>cases h
 split at h
 case h_2=>cases h
 rename_i ent1 bck hl1 hbn; split at h
 case h_2=>cases h
 split at h
 case h_2=>cases h
 injection h with h; subst h; obtain ⟨b1,b2⟩:=zl5 nbk bck hbn; refine ⟨(fun c hc=>by cases hc),fun c hc=>?_,fun c hc=>?_,fun c hc=>?_⟩
 · have:c=b∨c∈ids bck:=by simpa [ids] using hc
   rcases this with rfl | hm
   · exact .inl (by simp [hlb])
   · rw [b1] at hm; obtain ⟨p,hp,rfl⟩:=List.mem_map.1 hm; exact .inl (n3 p hp).2.2.2
 · have h1:=List.all_eq_true.1 hfz c hc; simp only [Bool.and_eq_true,decide_eq_true_eq] at h1; exact h1.1
 · obtain ⟨p,hp,rfl⟩:=List.mem_map.1 hc; exact (n3 p hp).2.2.1
theorem ztn {k:Bool} {o:Oper} {L:Nat→Option Ent} {r r0:Res} (h:toKill k r0=some r) (hs:Shape o L r0):Shape o L r:=by
 unfold toKill at h; split at h
 · rename_i b rest hf hk; split at h
   case isFalse=>cases h
   rename_i hc; simp only [Option.some.injEq] at h; subst h; refine ⟨fun c hm=>?_,hs.set,(fun c hm=>by cases hm),hs.re⟩; injection hm with hm; subst hm; refine ⟨fun hi=>?_,hs.frz b (by rw [hf]; exact List.mem_cons_self)⟩; obtain ⟨p,hp,e⟩:=List.mem_map.1 hi; have:=List.all_eq_true.1 hc.2.1 p hp; simp only [bne_iff_ne] at this; exact this e
 · simp only [Option.some.injEq] at h; subst h; exact hs
theorem zeD {P:Program} {o:Oper} {E:Operand→AV} {L:Nat→Option Ent} {r:Res} (h:aPure P o E=some r):Shape o L r:=by
 unfold aPure at h
 repeat' (split at h)
 all_goals first | (injection h with h; subst h; exact Shape.none rfl rfl rfl) | cases h
theorem zoU {P:Program} {o:Oper} {L:Nat→Option Ent} {t:TypeId} {m k x:AV} {r:Res} (h:aMSet P L t m k x=some r):Shape o L r:=by
 unfold aMSet at h; split at h
 case h_2=>cases h
 split at h
 case h_2=>cases h
 split at h
 case h_2=>cases h
 rename_i ent hl; split at h
 case isFalse=>cases h
 rename_i hc; split at h
 case h_2=>cases h
 split at h
 case isFalse=>cases h
 split at h
 case h_2=>cases h
 injection h with h; subst h; refine ⟨(fun b hk=>by cases hk),(fun b hm=>by simp [ids] at hm; subst hm; exact .inl (by simp [hl])),fun b hb=>?_,fun b hb=>by cases hb⟩; have:=List.all_eq_true.1 hc.2.2.2 b hb; simp only [Bool.and_eq_true,decide_eq_true_eq] at this; exact this.1
theorem aop_shape {P:Program} {C:Cfg} {M:List Nat} {call:zaX} {o:Oper} {E:Operand→AV} {L:Nat→Option Ent} {r:Res} (h:aop P C M call o E L=some r):Shape o L r:=by
 unfold aop at h; split at h
 all_goals try (first
  | exact zeD h
  | (injection h with h; subst h; exact Shape.none rfl rfl rfl)
  | cases h)
 · repeat' (split at h)
   all_goals first | (injection h with h; subst h; exact Shape.none rfl rfl rfl) | cases h
 · split at h
   case h_2=>cases h
   rename_i d zero n hd hz hn; split at h
   case isFalse=>cases h
   split at h
   · unfold aArr at h
     repeat' (split at h)
     all_goals first | (injection h with h; subst h; exact Shape.one rfl (.inr hd) (fun b hk=>by cases hk) rfl) | cases h
   injection h with h; subst h; exact Shape.one rfl (.inr hd) (fun b hk=>by cases hk) rfl
 · split at h
   case h_2=>cases h
   rename_i d hd; split at h
   case isFalse=>cases h
   injection h with h; subst h; exact Shape.one rfl (.inr hd) (fun b hk=>by cases hk) rfl
 · unfold aBuild at h
   repeat' (split at h)
   all_goals first | (injection h with h; subst h; exact Shape.none rfl rfl rfl) | cases h
 · split at h
   case h_2=>cases h
   rename_i d hd; split at h
   · split at h
     case isFalse=>cases h
     unfold zg1 at h
     repeat' (split at h)
     all_goals first | (injection h with h; subst h; exact Shape.one rfl (.inr hd) (fun b hk=>by cases hk) rfl) | cases h
   · unfold aLit at h
     repeat' (split at h)
     all_goals first | (injection h with h; subst h; exact Shape.none rfl rfl rfl) | cases h
 · unfold aLoad at h
   repeat' (split at h)
   all_goals first | (injection h with h; subst h; exact Shape.none rfl rfl rfl) | cases h
 · unfold aStore at h; split at h
   case h_2=>cases h
   split at h
   case h_2=>cases h
   rename_i ent n hl hs; split at h
   case isFalse=>cases h
   split at h
   case h_2=>cases h
   split at h
   case isFalse=>cases h
   injection h with h; subst h; exact Shape.one rfl (.inl (by simp [hl])) (fun b hk=>by cases hk) rfl
 · repeat' (split at h)
   all_goals first | (injection h with h; subst h; exact Shape.none rfl rfl rfl) | cases h
 · repeat' (split at h)
   all_goals first | (injection h with h; subst h; exact Shape.none rfl rfl rfl) | cases h
 · unfold aField at h
   repeat' (split at h)
   all_goals first | (injection h with h; subst h; exact Shape.none rfl rfl rfl) | cases h
 · repeat' (split at h)
   all_goals first | (injection h with h; subst h; exact Shape.none rfl rfl rfl) | cases h
 · unfold aIndex at h
   repeat' (split at h)
   all_goals first | (injection h with h; subst h; exact Shape.none rfl rfl rfl) | cases h
 · repeat' (split at h)
   all_goals first | exact zeD h | (injection h with h; subst h; exact Shape.none rfl rfl rfl) | cases h
 · split at h
   · exact zeD h
   · unfold aSlice at h
     repeat' (split at h)
     all_goals first | (injection h with h; subst h; exact Shape.none rfl rfl rfl) | cases h
 · split at h
   · injection h with h; subst h; exact Shape.none rfl rfl rfl
   · cases h
 · split at h
   case h_2=>cases h
   rename_i d hd; split at h
   case isFalse=>cases h
   split at h
   · unfold aMakeL at h
     repeat' (split at h)
     all_goals first | (injection h with h; subst h; exact Shape.none rfl rfl rfl) | cases h
   unfold aMake at h
   repeat' (split at h)
   all_goals first | (injection h with h; subst h; exact Shape.one rfl (.inr hd) (fun b hk=>by cases hk) rfl) | cases h
 · split at h
   case h_2=>cases h
   rename_i d s x t t' hd ha ht; split at h
   case isFalse=>cases h
   unfold zfI at h
   repeat' (split at h)
   all_goals try (cases h; done)
   · injection h with h; subst h; exact Shape.one rfl (.inr hd) (fun b hk=>by cases hk) rfl
   · rename_i hc; injection h with h; subst h; refine Shape.one rfl (.inr hd) (fun b hk=>?_) rfl; injection hk with hk; subst hk; exact ⟨hc.2.1,hc.1⟩
 · split at h
   case h_2=>cases h
   unfold aCopy at h; split at h
   case h_2=>cases h
   split at h
   case h_2=>cases h
   split at h
   case h_2=>cases h
   rename_i ent new hl hsrc; split at h
   case isFalse=>cases h
   injection h with h; subst h; exact Shape.one rfl (.inl (by simp [hl])) (fun b hk=>by cases hk) rfl
 · split at h
   case h_2=>cases h
   unfold aClear at h; split at h
   case h_2=>cases h
   split at h
   case h_2=>cases h
   split at h
   case h_2=>cases h
   rename_i ent hl; split at h
   case isFalse=>cases h
   injection h with h; subst h; exact Shape.one rfl (.inl (by simp [hl])) (fun b hk=>by cases hk) rfl
 · split at h
   case h_2=>cases h
   split at h
   · exact zeD h
   · unfold aLen at h
     repeat' (split at h)
     all_goals first | (injection h with h; subst h; exact Shape.none rfl rfl rfl) | cases h
   · unfold aMLen at h
     repeat' (split at h)
     all_goals first | (injection h with h; subst h; exact Shape.none rfl rfl rfl) | cases h
   · cases h
 · split at h
   case h_2=>cases h
   unfold aMDel at h; split at h
   case h_2=>cases h
   split at h
   case h_2=>cases h
   split at h
   case h_2=>cases h
   rename_i ent hl; split at h
   case isFalse=>cases h
   split at h
   case h_2=>cases h
   injection h with h; subst h; exact Shape.one rfl (.inl (by simp [hl])) (fun b hk=>by cases hk) rfl
 · split at h
   case h_2=>cases h
   rename_i d hd; split at h
   case isFalse=>cases h
   unfold aMkMap at h; split at h
   · injection h with h; subst h; exact Shape.one rfl (.inr hd) (fun b hk=>by cases hk) rfl
   · cases h
 · unfold aMLook at h
   repeat' (split at h)
   all_goals first | (injection h with h; subst h; exact Shape.none rfl rfl rfl) | cases h
 · exact zoU h
 · exact zoU h
 · split at h
   case h_2=>cases h
   split at h
   · exact zeD h
   · split at h
     · split at h
       · exact ztu h
       · cases h
     split at h
     · rename_i d hd; split at h
       case isFalse=>cases h
       rename_i hnone; split at h
       case h_2=>cases h
       rename_i r0 hc; rw [← hd] at hc; refine ztn h (zoS (fun d' hd'=>?_) hc); rw [hd] at hd'; injection hd' with hd'; subst hd'; simpa using hnone
     · rename_i hd; rw [← hd] at h; exact zoS (fun d' hd'=>by rw [hd] at hd'; cases hd') h
 · split at h
   · repeat' (split at h)
     all_goals first | (injection h with h; subst h; exact Shape.none rfl rfl rfl) | cases h
   · exact zeD h
 · split at h
   · unfold aEq at h
     repeat' (split at h)
     all_goals first | (injection h with h; subst h; exact Shape.none rfl rfl rfl) | cases h
   · split at h
     · rename_i r0 hn; injection h with h; subst h; unfold nilCmp nilOp at hn
       repeat' (split at hn)
       all_goals first | (injection hn with hn; subst hn; exact Shape.none rfl rfl rfl) | cases hn
     · exact zeD h
end Go.Ab
namespace Go.Ab
open Go.RowKit
variable [Dr]
def frzO (bs:List Nat) (L:Nat→Option Ent) (a:AV):AV:=match bs with
 | []=>a
 | bs=>zbE bs L 4 a
def killO (b:Option Nat) (a:AV):AV:=match b with
 | some b=>a.kill b 4
 | none=>a
def frzLO (bs:List Nat) (L:Nat→Option Ent):Nat→Option Ent:=match bs with
 | []=>L
 | bs=>frzL bs L
def killLO (b:Option Nat) (L:Nat→Option Ent):Nat→Option Ent:=match b with
 | some b=>killL b L
 | none=>L
def killR:List Nat→AV→AV
 | [],a=>a
 | b :: bs,a=>killR bs (a.kill b 4)
def killLR:List Nat→(Nat→Option Ent)→Nat→Option Ent
 | [],L=>L
 | b :: bs,L=>killLR bs (killL b L)
def applyT (dst:Option Nat) (r:Res) (T:Nat→AV) (L:Nat→Option Ent):Nat→AV:=fun k=>if dst=some k then r.val else killR r.re (killO r.kill (frzO r.frz L (T k)))
def applyL (r:Res) (L:Nat→Option Ent):Nat→Option Ent:=fun c=>match look r.set c with
 | some e=>some e
 | none=>killLR r.re (killLO r.kill (frzLO r.frz L)) c
theorem zqP:∀ (bs:List Nat) (st:St) (k:Nat),get (delAll bs st).t k=killR bs (get st.t k)
 | [],st,k=>rfl
 | b :: bs,st,k=>by simp only [delAll,killR]; rw [zqP bs (del b st) k]; simp only [del]; rw [zgk]
theorem zo8:∀ (bs:List Nat) (st:St),look (delAll bs st).m=killLR bs (look st.m)
 | [],st=>rfl
 | b :: bs,st=>by
   simp only [delAll,killLR]; rw [zo8 bs (del b st)]; have:look (del b st).m=killL b (look st.m):=funext fun c=>zdn b st.m c
   rw [this]
theorem ziZ (p:Nat×Ent):∀ (m:Mem) (c:Nat),(look m p.1).isSome=true→look (repM p m) c=if c=p.1 then some p.2 else look m c
 | [],c,h=>by simp [look] at h
 | (j,e) :: r,c,h=>by
   simp only [repM]; split
   · rename_i hj; simp only [look]; by_cases hc:c=p.1
     · rw [if_pos hc,if_pos hc]
     · rw [if_neg hc,if_neg hc,if_neg (by rw [← hj]; exact hc)]
   · rename_i hj; simp only [look] at h ⊢; rw [if_neg hj] at h; by_cases hc:c=j
     · rw [if_pos hc,if_pos hc,if_neg (by rw [hc]; exact fun e=>hj e.symm)]
     · rw [if_neg hc,if_neg hc]; exact ziZ p r c h
theorem look_setM (p:Nat×Ent) (m:Mem) (c:Nat):look (setM p m) c=if c=p.1 then some p.2 else look m c:=by
 unfold setM; split
 · rename_i e he; exact ziZ p m c (by rw [he]; rfl)
 · rfl
theorem zo9:∀ (l:List (Nat×Ent)) (m:Mem) (c:Nat),look (setAll l m) c=match look l c with | some e=>some e | none=>look m c
 | [],m,c=>rfl
 | (j,e) :: r,m,c=>by
   simp only [setAll,look_setM,look]; split
   · rfl
   · exact zo9 r m c
theorem get_apply (dst:Option Nat) (r:Res) (st:St) (k:Nat):get (applyR dst r st).t k=applyT dst r (get st.t) (look st.m) k:=by
 have h1:∀ j,get (zbm r.frz st).t j=frzO r.frz (look st.m) (get st.t j):=by
  intro j; unfold zbm frzO
  cases r.frz with
  | nil=>rfl
  | cons b bs=>exact zll _ _ _ _
 simp only [applyR,applyT]
 have h2':∀ j,get (match r.kill with | some b=>del b (zbm r.frz st) | none=>zbm r.frz st).t j=killO r.kill (frzO r.frz (look st.m) (get st.t j)):=by
  intro j
  cases r.kill with
  | none=>exact h1 j
  | some b=>simp only [del,killO]; rw [zgk,h1]
 have h2:∀ j,get (delAll r.re (match r.kill with | some b=>del b (zbm r.frz st) | none=>zbm r.frz st)).t j=killR r.re (killO r.kill (frzO r.frz (look st.m) (get st.t j))):=by intro j; rw [zqP,h2']
 cases dst with
 | none=>rw [if_neg (by simp)]; exact h2 k
 | some d =>
   simp only [putO,get]; by_cases hk:k=d
   · subst hk; simp
   · have:¬ (some d=some k):=fun e=>hk (by injection e with e; exact e.symm)
     rw [if_neg hk,if_neg this]; exact h2 k
theorem look_apply (dst:Option Nat) (r:Res) (st:St) (c:Nat):look (applyR dst r st).m c=applyL r (look st.m) c:=by
 have h1:∀ j,look (zbm r.frz st).m j=frzLO r.frz (look st.m) j:=by
  intro j; unfold zbm frzLO
  cases r.frz with
  | nil=>rfl
  | cons b bs=>simp only [frzL]; exact zkw _ _ _ _
 simp only [applyR,applyL]; rw [zo9]; split
 · rfl
 · rw [zo8]
   have h2:look (match r.kill with | some b=>del b (zbm r.frz st) | none=>zbm r.frz st).m=killLO r.kill (frzLO r.frz (look st.m)):=by
    funext c
    cases r.kill with
    | none=>exact h1 c
    | some b=>simp only [del,killLO]; rw [zdn]; have:look (zbm r.frz st).m=frzLO r.frz (look st.m):=funext h1; rw [this]
   exact congrFun (congrArg (killLR r.re) h2) c
theorem zp8:∀ {m:List (Nat×Ent)} {b:Nat},(look m b).isSome=true↔b∈ids m:=by
 intro m b; constructor
 · intro h; obtain ⟨e,he⟩:=Option.isSome_iff_exists.1 h; exact List.mem_map.2 ⟨_,zgn he,rfl⟩
 · exact zeK
section
variable {w0:World} {S0:Nat→Prop} {κ0:Kap} {K:Nat→Prop} {N:Nat} {S:Nat→Prop} {κ:Kap} {T:Nat→AV} {L:Nat→Option Ent} {a:Act} {w:World}
theorem tmps_put (a:Act) (dst:Option Nat) (y:Value) (hd:dstOk a.tmps.size dst=true) (k:Nat):(a.put dst y).tmps.getD k undef=if dst=some k then y else a.tmps.getD k undef:=by
 cases dst with
 | none=>simp [Act.put]
 | some d =>
   simp [dstOk] at hd; by_cases hk:d=k
   · subst hk; simp [Act.put,hd]
   · have:¬ (some d=some k):=fun e=>hk (by injection e)
     rw [if_neg this]; simp [Act.put,Array.getElem?_setIfInBounds_ne hk]
theorem zo4:∀ {bs:List Nat} {L:Nat→Option Ent} {b:Nat},b ∉ bs→((killLR bs L b).isSome=true↔(L b).isSome=true)
 | [],L,b,_=>Iff.rfl
 | c :: cs,L,b,h=>by
   have h1:b≠c:=fun e=>h (by simp [e])
   have h2:b ∉ cs:=fun e=>h (by simp [e])
   simp only [killLR]; rw [zo4 h2]; simp [killL,h1]
theorem zrU:∀ {bs:List Nat} {L:Nat→Option Ent} {b:Nat} {e:Ent},killLR bs L b=some e→b ∉ bs→∃ e0,L b=some e0∧e=(if e0.box then { e0 with es:=e0.es.map fun cs=>cs.map (killR bs) } else e0)
 | [],L,b,e,h,_=>⟨e,h,by
   have:killR []=id:=rfl
   simp [this]⟩
 | c :: cs,L,b,e,h,hn=>by
   have h1:b≠c:=fun e=>hn (by simp [e])
   have h2:b ∉ cs:=fun e=>hn (by simp [e])
   simp only [killLR] at h; obtain ⟨e1,h3,h4⟩:=zrU h h2; simp only [killL,h1,if_false] at h3
   cases hl:L b with
   | none=>simp [hl] at h3
   | some e0 =>
     simp [hl] at h3; refine ⟨e0,rfl,?_⟩; rw [h4,← h3]; unfold killE; cases hb:e0.box
     · simp [hb]
     · simp [killR,Function.comp_def]
theorem zo5 {S:Nat→Prop} {κ:Kap} {w:World}:∀ (bs:List Nat) {D D':Nat→Prop} {a:AV} {x:Value},(∀ c,D c→c ∉ bs→D' c)→VRel S κ D w a x→VRel S κ D' w (killR bs a) x
 | [],D,D',a,x,hD,h=>h.mono (fun _ h=>h) (fun _ _=>rfl) (fun c hc=>hD c hc (by simp)) (fun _ _=>rfl)
 | b :: bs,D,D',a,x,hD,h=>zo5 bs (D:=fun c=>D c∧c≠b) (fun c hc hn=>hD c hc.1 (fun hm=>by
     rcases List.mem_cons.1 hm with rfl | hm
     · exact hc.2 rfl
     · exact hn hm)) (zjO (fun c hc hne=>⟨hc,hne⟩) 4 h)
theorem Good.apply {o:Oper} {r:Res} {y:Value} {w':World} {S':Nat→Prop} {κ':Kap} (h:Good w0 S0 κ0 K N S κ T L a w) (hN:N≤1000) (hdst:dstOk N o.dst=true)
  (he:EffAt S κ (fun b=>(L b).isSome=true) w S' κ' r y w') (hdis:Dis (fun b=>(L b).isSome=true) r) (hsh:Shape o L r):Good w0 S0 κ0 K N S' κ' (applyT o.dst r T L) (applyL r L) (a.put o.dst y) w':=by
 let S1:Nat→Prop:=fun g=>S g∨∃ b c,b∈r.frz∧(L b).isSome=true∧κ b=some (g,c)
 have hblockLt:∀ b g c,(L b).isSome=true→κ b=some (g,c)→g < w.heap.size∧¬ S g:=by intro b g c hb hk; obtain ⟨ent,hent⟩:=Option.isSome_iff_exists.1 hb; have:=h.ents b ent hent; rw [hk] at this; exact ⟨this.lt,this.notS⟩
 have hset:∀ b,b∈ids r.set→¬ (L b).isSome=true→b < 1000:=by
  intro b hb hn; rcases hsh.set b hb with h1 | h1
  · exact absurd h1 hn
  · rw [h1] at hdst; simp [dstOk] at hdst; omega
 have hDiff:∀ b,(applyL r L b).isSome=true↔D1 (fun b=>(L b).isSome=true) r b:=by
  intro b; have hl:(look r.set b).isSome=true↔b∈ids r.set:=zp8
  have hk0:(killLO r.kill (frzLO r.frz L) b).isSome=true↔((L b).isSome=true∧r.kill≠some b∧b ∉ r.frz):=by
   have h1:(frzLO r.frz L b).isSome=true↔(L b).isSome=true∧b ∉ r.frz:=by
    unfold frzLO
    cases hf:r.frz with
    | nil=>simp
    | cons c cs =>
      simp only [frzL]; by_cases hm:(c :: cs).contains b=true
      · have:b∈c :: cs:=by simpa using hm
        simp [this]
      · have:b ∉ c :: cs:=by simpa using hm
        simp only [hm,Bool.false_eq_true,if_false,Option.isSome_map,this,not_false_eq_true,and_true]
   unfold killLO
   cases hq:r.kill with
   | none=>simp [h1]
   | some c =>
     simp only [killL]; by_cases hbc:b=c
     · subst hbc; simp
     · have:c≠b:=fun e=>hbc e.symm
       simp [hbc,h1,this]
  have hk:b ∉ ids r.set→((killLR r.re (killLO r.kill (frzLO r.frz L)) b).isSome=true↔((L b).isSome=true∧r.kill≠some b∧b ∉ r.frz)):=fun hn=>by
   rw [← hk0]; have hre:b ∉ r.re:=fun hm=>hn (he.res b hm)
   exact zo4 hre
  unfold applyL D1
  cases hq:look r.set b with
  | some e=>have:b∈ids r.set:=hl.1 (by simp [hq]); simp [this]
  | none =>
    have:b ∉ ids r.set:=fun hm=>by have:=hl.2 hm; rw [hq] at this; cases this
    simp only [this,or_false]; exact hk this
 have hS1w:∀ g,S1 g→w'.heap[g]?=w.heap[g]?:=by
  intro g hg; rcases hg with hg | ⟨b,c,hb,hd,hk⟩
  · exact he.blk g (h.slt g hg) (fun b c _ hd hk=>(hblockLt b g c hd hk).2 hg)
  · refine he.blk g (hblockLt b g c hd hk).1 (fun b' c' hb' hd' hk'=>?_); have:b'=b:=h.inj b' b g c' c hd' hd hk' hk; subst this; obtain ⟨_,h2,h3⟩:=hdis b' hb; rcases hb' with hm | hm
    · exact h2 hm
    · exact h3 hm
 have hS1':∀ g,S1 g→S' g:=by
  intro g hg; rcases hg with hg | ⟨b,c,hb,_,hk⟩
  · exact he.sup g hg
  · exact he.sfrz b hb g c hk
 have hDold:∀ b,(L b).isSome=true→r.kill≠some b→b ∉ r.frz→(applyL r L b).isSome=true:=fun b h1 h2 h3=>(hDiff b).2 (.inl ⟨h1,h2,h3⟩)
 have hval:∀ (av:AV) (x:Value),VRel S κ (fun b=>(L b).isSome=true) w av x→VRel S' κ' (fun b=>(applyL r L b).isSome=true) w' (killR r.re (killO r.kill (frzO r.frz L av))) x:=by
  intro av x hv
  have h1:VRel S1 κ (fun b=>(L b).isSome=true∧b ∉ r.frz) w (frzO r.frz L av) x:=by
   cases hf:r.frz with
   | nil=>exact hv.mono (fun _ h=>.inl h) (fun _ _=>rfl) (fun b hb=>⟨hb,by simp⟩) (fun _ _=>rfl)
   | cons q qs =>
     refine ztd (bs:=q :: qs) h.ents (fun _ h=>.inl h) (fun b hb hd g c hk=>.inr ⟨b,c,by rw [hf]; exact hb,hd,hk⟩) (fun c hc hn=>⟨hc,?_⟩) 4 hv; intro hm; have:(q :: qs).contains c=true:=by simpa using hm
     rw [this] at hn; cases hn
  have h2:VRel S1 κ (fun b=>(L b).isSome=true∧r.kill≠some b∧b ∉ r.frz) w (killO r.kill (frzO r.frz L av)) x:=by
   cases hk:r.kill with
   | some b=>exact zjO (fun c hc hne=>⟨hc.1,fun e=>hne (by injection e with e; exact e.symm),hc.2⟩) 4 h1
   | none=>exact h1.mono (fun _ h=>h) (fun _ _=>rfl) (fun b hb=>⟨hb.1,by simp,hb.2⟩) (fun _ _=>rfl)
  have h3:VRel S1 κ (fun b=>((L b).isSome=true∧r.kill≠some b∧b ∉ r.frz)∧b ∉ r.re) w (killR r.re (killO r.kill (frzO r.frz L av))) x:=zo5 r.re (fun c hc hn=>⟨hc,hn⟩) h2; exact h3.mono hS1' hS1w (fun b hb=>hDold b hb.1.1 hb.1.2.1 hb.1.2.2) (fun b hb=>he.kold b hb.1.1 hb.2)
 have hcases:∀ b,(applyL r L b).isSome=true→((L b).isSome=true∧b ∉ r.re∧κ' b=κ b)∨(((L b).isSome=true→b∈r.re)∧b∈ids r.set):=by
  intro b hb; by_cases hre:b∈r.re
  · exact .inr ⟨fun _=>hre,he.res b hre⟩
  by_cases hl:(L b).isSome=true
  · exact .inl ⟨hl,hre,he.kold b hl hre⟩
  · rcases (hDiff b).1 hb with h1 | h1
    · exact absurd h1.1 hl
    · exact .inr ⟨fun h=>absurd h hl,h1⟩
 exact {
  base:=h.base
  defers:=by cases o.dst <;> exact h.defers
  size:=by have:=h.size; cases hd:o.dst <;> simp [Act.put,this]
  os:=he.os.trans h.os
  tape:=he.tape.trans h.tape
  output:=h.output.trans he.output
  grow:=Nat.le_trans h.grow he.size
  old:=fun g hg hK=>by
   rw [he.blk g (Nat.lt_of_lt_of_le hg h.grow) ?_]
   · exact h.old g hg hK
   · intro b c hb hd hk; by_cases hb1:b < 1000
     · rcases h.own b g c hb1 hd hk with q | ⟨b',c',_,q2,q3⟩
       · omega
       · exact hK b' c' q2 q3
     · have h1:=h.par b (by omega); exact hK b c (h.parK b (by omega) hd) (by rw [← h1]; exact hk)
  sup:=fun g hg=>he.sup g (h.sup g hg)
  snew:=fun g hg=>by
   rcases he.snew g hg with h1 | h1 | ⟨b,c,hb,hd,hk⟩
   · exact h.snew g h1
   · exact .inr (.inl (Nat.le_trans h.grow h1))
   · exact .inr (h.own b g c (hb.elim (hsh.frz b) (fun q=>q.elim (fun q=>(hsh.kill b q).2) (hsh.re b))) hd hk)
  slt:=he.slt
  par:=fun b hb=>by
   rw [← h.par b hb]; by_cases hm:b∈ids r.set
   · by_cases hd:(L b).isSome=true
     · exact he.kold b hd (fun hr=>by have:=hsh.re b hr; omega)
     · have:=hset b hm hd; omega
   · exact he.kout b hm
  parK:=fun b hb hs=>by
   rcases hcases b hs with ⟨h1,_⟩ | ⟨h1,h2⟩
   · exact h.parK b hb h1
   · by_cases hd:(L b).isSome=true
     · have:=hsh.re b (h1 hd); omega
     · have:=hset b h2 hd; omega
  own:=fun b g c hb hs hk=>by
   rcases hcases b hs with ⟨h1,_,h2⟩ | ⟨h1,h2⟩
   · rw [h2] at hk; exact h.own b g c hb h1 hk
   · rcases he.knew b h1 h2 g c hk with h3 | ⟨b0,c0,h3,h4,h5⟩
     · exact .inl (Nat.le_trans h.grow h3)
     · exact h.own b0 g c0 (h3.elim (fun q=>(hsh.kill b0 q).2) (hsh.re b0)) h4 h5
  inj:=by
   have one:∀ b b' g c c',((L b).isSome=true→b∈r.re)→b∈ids r.set→(L b').isSome=true→b' ∉ r.re→(applyL r L b').isSome=true→κ' b=some (g,c)→κ b'=some (g,c')→False:=by
    intro b b' g c c' h1 h2 h3 hnr h3' h4 h5; rcases he.knew b h1 h2 g c h4 with h6 | ⟨b0,c0,h6,h7,h8⟩
    · have:=(hblockLt b' g c' h3 h5).1; omega
    · have:b'=b0:=h.inj b' b0 g c' c0 h3 h7 h5 h8; subst this; rcases h6 with h6 | h6
      · rcases (hDiff b').1 h3' with h9 | h9
        · exact h9.2.1 h6
        · exact (hsh.kill b' h6).1 h9
      · exact hnr h6
   intro b b' g c c' hs hs' hk hk'; rcases hcases b hs with ⟨h1,hr1,h2⟩ | ⟨h1,h2⟩
   · rcases hcases b' hs' with ⟨h3,_,h4⟩ | ⟨h3,h4⟩
     · rw [h2] at hk; rw [h4] at hk'; exact h.inj b b' g c c' h1 h3 hk hk'
     · rw [h2] at hk; exact (one b' b g c' c h3 h4 h1 hr1 hs hk' hk).elim
   · rcases hcases b' hs' with ⟨h3,hr3,h4⟩ | ⟨h3,h4⟩
     · rw [h4] at hk'; exact (one b b' g c c' h1 h2 h3 hr3 hs' hk hk').elim
     · exact he.one b b' h1 h3 h2 h4 g c c' hk hk'
  ents:=fun b ent hb=>by
   have hDD:∀ b,D1 (fun b=>(L b).isSome=true) r b→(applyL r L b).isSome=true:=fun b=>(hDiff b).2
   simp only [applyL] at hb
   cases hq:look r.set b with
   | some e=>simp only [hq] at hb; injection hb with hb; subst hb; have hE:=he.ents b e (zgn hq); refine hE.mono (fun _ h=>h) (fun _ _=>rfl) hDD (fun _ _=>rfl) (fun g c hk=>⟨rfl,?_⟩); rw [hk] at hE; exact hE.notS
   | none =>
     simp only [hq] at hb; have hnm:b ∉ ids r.set:=fun hm=>by have:=zeK hm; rw [hq] at this; cases this
     have hnre:b ∉ r.re:=fun hm=>hnm (he.res b hm)
     obtain ⟨entR,hb,hentR⟩:=zrU hb hnre
     obtain ⟨e0,hl0,hkn,hfn,hent0⟩:∃ e0,L b=some e0∧r.kill≠some b∧b ∉ r.frz∧entR=(if e0.box then { e0 with es:=e0.es.map fun cs=>cs.map fun a=>killO r.kill (frzO r.frz L a) } else e0):=by
      have hf1:∀ e1,frzLO r.frz L b=some e1→∃ e0,L b=some e0∧b ∉ r.frz∧e1=(if e0.box then { e0 with es:=e0.es.map fun cs=>cs.map fun a=>frzO r.frz L a } else e0):=by
       intro e1 h1; unfold frzLO at h1
       cases hf:r.frz with
       | nil=>simp only [hf] at h1; refine ⟨e1,h1,by simp,?_⟩; have:(fun a=>frzO ([]:List Nat) L a)=id:=rfl; simp [this]
       | cons c cs =>
         simp only [hf,frzL] at h1; split at h1
         · cases h1
         · rename_i hm
           cases hl:L b with
           | none=>simp [hl] at h1
           | some e0=>simp [hl] at h1; exact ⟨e0,rfl,by simpa using hm,h1.symm⟩
      unfold killLO at hb
      cases hk:r.kill with
      | none=>simp only [hk] at hb; obtain ⟨e0,h1,h2,h3⟩:=hf1 entR hb; exact ⟨e0,h1,by simp,h2,h3⟩
      | some c =>
        simp only [hk,killL] at hb; split at hb
        · cases hb
        · rename_i hne
          cases hfl:frzLO r.frz L b with
          | none=>simp [hfl] at hb
          | some e1 =>
            simp [hfl] at hb; obtain ⟨e0,h1,h2,h3⟩:=hf1 e1 hfl; refine ⟨e0,h1,fun e=>hne (by injection e with e; exact e.symm),h2,?_⟩; rw [← hb,h3]; unfold killE; cases hbx:e0.box
            · simp [hbx]
            · simp [killO,Function.comp_def]
     have hent:ent=(if e0.box then { e0 with es:=e0.es.map fun cs=>cs.map fun a=>killR r.re (killO r.kill (frzO r.frz L a)) } else e0):=by
      rw [hentR,hent0]; cases hbx:e0.box
      · simp [hbx]
      · simp [Function.comp_def]
     subst hent; have hlb:(L b).isSome=true:=by simp [hl0]
     have hE:=h.ents b e0 hl0; rw [he.kold b hlb hnre]
     have hun:∀ g c,κ b=some (g,c)→w'.heap[g]?=w.heap[g]?∧¬ S' g:=by
      intro g c hk; refine ⟨he.blk g (hblockLt b g c hlb hk).1 (fun b' c' hb' hd' hk'=>?_),fun hs=>?_⟩
      · have:b'=b:=h.inj b' b g c' c hd' hlb hk' hk; subst this; rcases hb' with hm | hm
        · exact hnm hm
        · exact hkn hm
      · rcases he.snew g hs with h1 | h1 | ⟨b',c',hb',hd',hk'⟩
        · exact (hblockLt b g c hlb hk).2 h1
        · have:=(hblockLt b g c hlb hk).1; omega
        · have:b'=b:=h.inj b' b g c' c hd' hlb hk' hk; subst this; exact hb'.elim hfn (fun q=>q.elim hkn hnre)
     cases hbx:e0.box with
     | false =>
       simp only [Bool.false_eq_true,if_false]; refine ⟨fun hce=>?_,fun hce=>(hE.2 hce).mono (fun g hg=>he.sup g hg) (fun g hg=>hS1w g (.inl hg)) hun⟩; obtain ⟨z1,z2⟩:=hE.1 hce; refine ⟨z1,?_⟩
       cases hkb:κ b with
       | none=>rw [hkb] at z2; exact z2
       | some gc=>obtain ⟨g,c⟩:=gc; rw [hkb] at z2; obtain ⟨cells,q1,q2,q3,q4,q5,q6⟩:=z2; obtain ⟨u1,u2⟩:=hun g c hkb; refine ⟨cells,u1.trans q1,q2,q3,q4,u2,fun i j cs av hi hj=>?_⟩; obtain ⟨u,v1,v2,_,v4⟩:=q6 i j cs av hi hj; exact ⟨u,v1,v2,(fun hb'=>by rw [hbx] at hb'; cases hb'),fun hb'=>(v4 hb').mono (fun g hg=>he.sup g hg) (fun g hg=>hS1w g (.inl hg))⟩
     | true =>
       simp only [if_true]; obtain ⟨z1,z2⟩:=hE.1 (.inl hbx); refine EntAt.of (.inl rfl) ⟨fun cs hcs=>?_,?_⟩
       · simp at hcs; obtain ⟨cs',hcs',rfl⟩:=hcs; simpa using z1 cs' hcs'
       · cases hkb:κ b with
         | none=>rw [hkb] at z2; rw [hbx] at z2; exact absurd z2.2 (by simp)
         | some gc=>obtain ⟨g,c⟩:=gc; rw [hkb] at z2; obtain ⟨cells,q1,q2,q3,q4,q5,q6⟩:=z2; obtain ⟨u1,u2⟩:=hun g c hkb; refine ⟨cells,u1.trans q1,q2,by simpa using q3,q4,u2,fun i j cs av hi hj=>?_⟩; simp at hi; obtain ⟨cs',hcs',rfl⟩:=hi; simp at hj; obtain ⟨a',ha',rfl⟩:=hj; obtain ⟨u,v1,v2,v3,_⟩:=q6 i j cs' a' hcs' ha'; exact ⟨u,v1,v2,fun _=>hval a' u (v3 hbx),fun hb'=>by cases hb'⟩
  slots:=fun k=>by
   rw [tmps_put a o.dst y (by rw [h.size]; exact hdst) k]; simp only [applyT]; split
   · exact he.val.mono (fun _ h=>h) (fun _ _=>rfl) (fun b=>(hDiff b).2) (fun _ _=>rfl)
   · exact hval _ _ (h.slots k) }
end
end Go.Ab
namespace Go.Ab
open Go.RowKit
theorem zfF {α β:Type} {f g:α→List β}:∀ {l:List α},(∀ a∈l,f a=g a)→l.flatMap f=l.flatMap g
 | [],_=>rfl
 | a :: l,h=>by simp only [List.flatMap_cons]; rw [h a (by simp),zfF (fun b hb=>h b (by simp [hb]))]
theorem zh3 {α β:Type} {f g:α→Option β}:∀ {l:List α},(∀ a∈l,f a=g a)→mapO f l=mapO g l
 | [],_=>rfl
 | a :: l,h=>by simp only [mapO]; rw [h a (by simp),zh3 (fun b hb=>h b (by simp [hb]))]
section
variable {L L':Nat→Option Ent}
theorem znF:∀ (k:Nat) (a:AV),(∀ b∈a.ids L k,L b=L' b)→a.ids L k=a.ids L' k:=by
 intro k
 induction k with
 | zero=>intro a _; rfl
 | succ k ih =>
   intro a h
   cases a with
   | agg cs=>exact zfF fun c hc=>ih c fun b hb=>h b (by simp only [AV.ids]; exact List.mem_flatMap.2 ⟨c,hc,hb⟩)
   | tup cs=>exact zfF fun c hc=>ih c fun b hb=>h b (by simp only [AV.ids]; exact List.mem_flatMap.2 ⟨c,hc,hb⟩)
   | fn f cs=>exact zfF fun c hc=>ih c fun b hb=>h b (by simp only [AV.ids]; exact List.mem_flatMap.2 ⟨c,hc,hb⟩)
   | loc c z i o =>
     have hc:=h c (by simp [AV.ids]); simp only [AV.ids] at h ⊢; rw [← hc]
     cases hl:L c with
     | none=>rfl
     | some ent =>
       simp only [hl] at h ⊢; split
       · rename_i hb; rw [if_pos hb] at h
         cases hi:ent.es[i]? with
         | none=>rfl
         | some cs=>simp only [hi] at h ⊢; congr 1; exact zfF fun av hav=>ih av fun b hb=>h b (List.mem_cons_of_mem _ (List.mem_flatMap.2 ⟨av,hav,hb⟩))
       · rfl
   | _=>rfl
theorem ids_mono:∀ (k:Nat) (a:AV),∀ b∈a.ids L k,b∈a.ids L (k+1):=by
 intro k
 induction k with
 | zero=>intro a b hb; simp [AV.ids] at hb
 | succ k ih =>
   intro a b hb
   cases a with
   | agg cs=>obtain ⟨c,hc,hb⟩:=List.mem_flatMap.1 hb; exact List.mem_flatMap.2 ⟨c,hc,ih c b hb⟩
   | tup cs=>obtain ⟨c,hc,hb⟩:=List.mem_flatMap.1 hb; exact List.mem_flatMap.2 ⟨c,hc,ih c b hb⟩
   | fn f cs=>obtain ⟨c,hc,hb⟩:=List.mem_flatMap.1 hb; exact List.mem_flatMap.2 ⟨c,hc,ih c b hb⟩
   | row c z o n=>simpa [AV.ids] using hb
   | map c=>simpa [AV.ids] using hb
   | loc c z i o =>
     simp only [AV.ids,List.mem_cons] at hb ⊢; rcases hb with hb | hb
     · exact .inl hb
     · refine .inr ?_
       cases hl:L c with
       | none=>simp [hl] at hb
       | some ent =>
         simp only [hl] at hb ⊢; split at hb
         · rename_i hbx; rw [if_pos hbx]
           cases hi:ent.es[i]? with
           | none=>simp [hi] at hb
           | some cs=>simp only [hi] at hb ⊢; obtain ⟨av,hav,hb⟩:=List.mem_flatMap.1 hb; exact List.mem_flatMap.2 ⟨av,hav,ih av b hb⟩
         · cases hb
   | _=>simp [AV.ids] at hb
theorem zmA:∀ (k:Nat) (a:AV),(∀ b∈a.ids L k,L b=L' b)→snap L k a=snap L' k a:=by
 intro k
 induction k with
 | zero=>intro a _; rfl
 | succ k ih =>
   intro a h
   cases a with
   | agg cs=>simp only [snap]; rw [zh3 fun c hc=>ih c (fun b hb=>h b (by simp only [AV.ids]; exact List.mem_flatMap.2 ⟨c,hc,hb⟩))]
   | tup cs=>simp only [snap]; rw [zh3 fun c hc=>ih c (fun b hb=>h b (by simp only [AV.ids]; exact List.mem_flatMap.2 ⟨c,hc,hb⟩))]
   | fn f cs=>simp only [snap]; rw [zh3 fun c hc=>ih c (fun b hb=>h b (by simp only [AV.ids]; exact List.mem_flatMap.2 ⟨c,hc,hb⟩))]
   | row b z off n=>simp only [snap]; rw [h b (by simp [AV.ids])]
   | map b=>simp only [snap]; rw [h b (by simp [AV.ids])]
   | loc b z i o =>
     have hb:=h b (by simp [AV.ids]); simp only [snap]; rw [← hb]
     cases hl:L b with
     | none=>rfl
     | some ent =>
       simp only; split
       · cases hi:ent.es[i]? with
         | none=>rfl
         | some cs =>
           simp only
           cases hbx:ent.box with
           | true=>simp only [if_true]; rw [zh3 fun av hav=>?_]; refine ih av (fun c hc=>h c ?_); simp only [AV.ids,hl,hbx,if_true,hi]; exact List.mem_cons_of_mem _ (List.mem_flatMap.2 ⟨av,hav,hc⟩)
           | false=>rfl
       · rfl
   | _=>rfl
theorem zsD {a:AV} (h:∀ b∈a.ids L 5,L b=L' b) {b z:Nat} {f:Nat→AV} (hs:ziG a=some (b,z,f)):L b=L' b:=by
 refine h b ?_; unfold ziG at hs; split at hs
 · injection hs with hs; injection hs with h1 _; subst h1; simp [AV.ids]
 · injection hs with hs; injection hs with h1 _; subst h1; simp [AV.ids]
 · cases hs
theorem zlO {wr:List Nat}:∀ (args:List AV) (k:Nat),(∀ a∈args,∀ b∈a.ids L 5,L b=L' b)→zbw L wr k args=zbw L' wr k args
 | [],_,_=>rfl
 | a :: r,k,h=>by
   simp only [zbw]; rw [zlO r (k+1) (fun c hc=>h c (by simp [hc]))]; have ha:=h a (by simp); rw [zmA 5 a ha,znF 5 a ha]
   cases zbw L' wr (k+1) r with
   | none=>rfl
   | some q =>
     obtain ⟨as,ms,bk,fz⟩:=q; simp only; split
     · cases a with
       | loc b z i o =>
         have hb:=ha b (by simp [AV.ids])
         cases i with
         | zero=>cases o with
           | zero=>simp only; rw [hb]
           | succ o=>rfl
         | succ i=>rfl
       | row b z off n=>simp only; rw [ha b (by simp [AV.ids])]
       | map b=>simp only; rw [ha b (by simp [AV.ids])]
       | agg cs =>
         simp only
         cases hs:ziG (.agg cs) with
         | none=>rfl
         | some q=>obtain ⟨b,z,f⟩:=q; simp only; rw [zsD ha hs]
       | _=>rfl
     · split
       · cases a with
         | row b z off n =>
           have hb:=ha b (by simp [AV.ids])
           cases off with
           | zero=>simp only; rw [hb]
           | succ o=>rfl
         | _=>rfl
       · rfl
theorem zoR {C:Cfg} {call:zaX} {d:Option Nat} {f:FuncId} {args:List AV} (h:∀ a∈args,∀ b∈a.ids L 5,L b=L' b):aCall C call L d f args=aCall C call L' d f args:=by unfold aCall; rw [zlO args 0 h]
theorem zmo:∀ (cs:List AV) (q:Nat),(∀ a∈cs,∀ b∈a.ids L 4,L b=L' b)→nest L q cs=nest L' q cs
 | [],_,_=>rfl
 | a :: r,q,h=>by
   simp only [nest]; rw [zmo r q (fun c hc=>h c (by simp [hc])),zmo r (q+1) (fun c hc=>h c (by simp [hc]))]; have ha:=h a (by simp); split
   · rfl
   · cases a with
     | row b z off n =>
       cases off with
       | zero=>simp only; rw [ha b (by simp [AV.ids])]
       | succ o=>rfl
     | map b=>simp only; rw [ha b (by simp [AV.ids])]
     | _=>rfl
theorem zoX {k0:Nat} {x0:AV}:∀ (args:List AV) (k:Nat),(∀ a∈args,∀ b∈a.ids L 5,L b=L' b)→dArgs L k0 x0 k args=dArgs L' k0 x0 k args
 | [],_,_=>rfl
 | a :: r,k,h=>by simp only [dArgs]; rw [zoX r (k+1) (fun c hc=>h c (by simp [hc]))]; have ha:=h a (by simp); rw [zmA 5 a ha,znF 5 a ha]
theorem ztt {call:zaX} {f:FuncId} {k0:Nat} {args:List AV} (h:∀ a∈args,∀ b∈a.ids L 5,L b=L' b):aDeep call L f k0 args=aDeep call L' f k0 args:=by
 unfold aDeep
 cases hk:args[k0]? with
 | none=>simp only
 | some a =>
   have ha:=h a (List.mem_of_getElem? hk)
   cases a with
   | loc b z i o =>
     cases i with
     | succ i=>simp only
     | zero=>cases o with
       | succ o=>simp only
       | zero =>
         simp only; have hb:=ha b (by simp [AV.ids]); rw [← hb]
         cases hl:L b with
         | none=>simp only
         | some ent =>
           simp only; by_cases hbx:ent.box=true
           · rw [if_pos hbx,if_pos hbx]
             cases hes:ent.es with
             | nil=>simp only
             | cons cs r=>cases r with
               | cons _ _=>simp only
               | nil =>
                 simp only
                 have hn:nest L 900 cs=nest L' 900 cs:=zmo cs 900 (fun c hc q hq=>ha q (by
                  simp only [AV.ids,hl,hbx,if_true,hes,List.getElem?_cons_zero,List.drop_zero]
                  exact List.mem_cons_of_mem _ (List.mem_flatMap.2 ⟨c,hc,hq⟩)))
                 rw [hn,zoX args 0 h]
           · rw [if_neg hbx,if_neg hbx]
   | _=>simp only
theorem zsi {z:Nat} {a:AV} (h:∀ b∈a.ids L 5,L b=L' b):srcOf L z a=srcOf L' z a:=by
 cases a with
 | row b z' off n=>simp only [srcOf]; rw [h b (by simp [AV.ids])]
 | v x=>cases x with
   | slice A l c=>cases A <;> cases l <;> cases c <;> rfl
   | _=>rfl
 | _=>rfl
theorem zr2 {a:AV} (h:∀ b∈a.ids L 5,L b=L' b):mesOf L a=mesOf L' a:=by
 cases a with
 | map b=>simp only [mesOf]; rw [h b (by simp [AV.ids])]
 | v x=>cases x with
   | map r=>cases r <;> rfl
   | _=>rfl
 | _=>rfl
theorem zoT {P:Program} {t:TypeId} {m k x:AV} (hm:∀ b∈m.ids L 5,L b=L' b) (hx:∀ b∈x.ids L 5,L b=L' b):aMSet P L t m k x=aMSet P L' t m k x:=by
 unfold aMSet; have e1:∀ et,snap L 5 (nrm P et x)=snap L' 5 (nrm P et x):=fun et=>zmA 5 _ (fun b hb=>hx b (by rw [nrm_ids] at hb; exact hb))
 have e2:x.ids L 5=x.ids L' 5:=znF 5 x hx
 cases m with
 | map b=>simp only [e1,e2]; rw [hm b (by simp [AV.ids])]
 | _=>rfl
theorem aop_congr {P:Program} {C:Cfg} {M:List Nat} {call:zaX} {o:Oper} {E E':Operand→AV} (hE:∀ x∈o.op.operands,E x=E' x) (hL:∀ b∈zgL o E L,L b=L' b):aop P C M call o E L=aop P C M call o E' L':=by
 have hd:∀ d,o.dst=some d→L d=L' d:=fun d h=>hL d (by simp [zgL,h])
 have hx6:stills o.op=false→∀ x∈o.op.operands,∀ b∈(E x).ids L 6,L b=L' b:=fun hs x hx b hb=>hL b (by
  simp only [zgL,List.mem_append,hs,Bool.false_eq_true,if_false]
  exact .inr (List.mem_flatMap.2 ⟨x,by simpa using hx,hb⟩))
 have hx:stills o.op=false→∀ x∈o.op.operands,∀ b∈(E x).ids L 5,L b=L' b:=fun hs x hx b hb=>hx6 hs x hx b (ids_mono 5 _ b hb)
 have hpure:(∀ cs b,o.op≠.select cs b)→aPure P o E=aPure P o E':=by
  intro hs; unfold aPure
  have h1:o.op.operands.toList.all (fun x=>(E x).toVal.isSome)=o.op.operands.toList.all (fun x=>(E' x).toVal.isSome):=by rw [Bool.eq_iff_iff,List.all_eq_true,List.all_eq_true]; exact ⟨fun h x hx=>by rw [← hE x (by simpa using hx)]; exact h x hx,fun h x hx=>by rw [hE x (by simpa using hx)]; exact h x hx⟩
  rw [h1,execOp_congr o hs (fun x hx=>by rw [hE x hx])]
 have hparts:∀ ps:Array (Nat×Operand),(∀ p∈ps,p.2∈o.op.operands)→(ps.toList.map fun p=>(p.1,E p.2))=(ps.toList.map fun p=>(p.1,E' p.2)):=fun ps hp=>List.map_congr_left fun p hm=>by rw [hE p.2 (hp p (by simpa using hm))]
 have hpartsN:∀ (t:TypeId) (ps:Array (Nat×Operand)),(∀ p∈ps,p.2∈o.op.operands)→(ps.toList.map fun p=>(p.1,nrmP P t (E p.2)))=(ps.toList.map fun p=>(p.1,nrmP P t (E' p.2))):=fun t ps hp=>List.map_congr_left fun p hm=>by rw [hE p.2 (hp p (by simpa using hm))]
 have hopt:∀ q:Option Operand,(∀ y,q=some y→y∈o.op.operands)→q.map E=q.map E':=fun q hq=>by
  cases q with
  | none=>rfl
  | some y=>simp only [Option.map_some]; rw [hE y (hq y rfl)]
 have hlist:∀ l:List Operand,(∀ x∈l,x∈o.op.operands)→l.map E=l.map E':=fun l hl=>List.map_congr_left fun x hm=>hE x (hl x hm)
 unfold aop
 cases ho:o.op with
 | move x=>simp only; rw [hE x (by simp [ho,Op.operands])]
 | assign x=>simp only; rw [hE x (by simp [ho,Op.operands])]
 | pick c a b=>simp only; rw [hE c (by simp [ho,Op.operands]),hE a (by simp [ho,Op.operands]),hE b (by simp [ho,Op.operands])]
 | alloc t =>
   simp only
   cases hq:o.dst with
   | none=>rfl
   | some d=>cases zeroB P t <;> cases szB P t <;> first | rfl | (simp only; rw [hd d hq])
 | box t x =>
   simp only; rw [hE x (by simp [ho,Op.operands])]
   cases hq:o.dst with
   | none=>rfl
   | some d=>simp only; rw [hd d hq]
 | build t ps=>simp only; rw [hparts ps (fun p hp=>by simp [ho,Op.operands]; exact ⟨p.1,by simpa using hp⟩)]
 | buildSlice t len ps =>
   simp only; rw [hpartsN t ps (fun p hp=>by simp [ho,Op.operands]; exact ⟨p.1,by simpa using hp⟩)]
   cases hq:o.dst with
   | none=>rfl
   | some d=>simp only; rw [hd d hq]
 | load t a =>
   simp only; rw [← hE a (by simp [ho,Op.operands])]; have h:=hx (by rw [ho]; rfl) a (by simp [ho,Op.operands])
   cases hq:E a with
   | loc b z i oo=>rw [hq] at h; simp only [aLoad]; rw [h b (by simp [AV.ids])]
   | _=>rfl
 | store t a x =>
   simp only; rw [← hE a (by simp [ho,Op.operands]),← hE x (by simp [ho,Op.operands])]; have h:=hx (by rw [ho]; rfl) a (by simp [ho,Op.operands])
   cases hq:E a with
   | loc b z i oo =>
     rw [hq] at h; have hb:=h b (by simp [AV.ids]); have hn:nrmS P L t (.loc b z i oo) (E x)=nrmS P L' t (.loc b z i oo) (E x):=by simp only [nrmS]; rw [hb]
     rw [hn]; generalize nrmS P L' t (.loc b z i oo) (E x)=q; simp only [aStore]; rw [hb]
   | _=>rfl
 | nilCheck x=>simp only; rw [hE x (by simp [ho,Op.operands])]
 | extract x i=>simp only; rw [hE x (by simp [ho,Op.operands])]
 | fieldAddr s x f=>simp only; rw [hE x (by simp [ho,Op.operands])]
 | field s x f=>simp only; rw [hE x (by simp [ho,Op.operands])]
 | indexAddr t x ix=>simp only; rw [hE x (by simp [ho,Op.operands]),hE ix (by simp [ho,Op.operands])]
 | index t x ix=>simp only; rw [hE x (by simp [ho,Op.operands]),hE ix (by simp [ho,Op.operands]),hpure (by simp [ho])]
 | slice t x lo hi mx =>
   cases mx with
   | none=>simp only; rw [hE x (by simp [ho,Op.operands]),hpure (by simp [ho]),hopt lo (fun y hy=>by simp [ho,Op.operands,hy]),hopt hi (fun y hy=>by simp [ho,Op.operands,hy])]
   | some m=>simp only; exact hpure (by simp [ho])
 | makeFunc fn first cap =>
   cases fn with
   | func f=>simp only; rw [hlist cap.toList (fun x hm=>by simp [ho,Op.operands]; exact .inr (by simpa using hm))]
   | _=>simp only; exact hpure (by simp [ho])
 | makeSlice t l c =>
   simp only; rw [hE l (by simp [ho,Op.operands]),hE c (by simp [ho,Op.operands])]
   cases hq:o.dst with
   | none=>rfl
   | some d=>simp only; rw [hd d hq]
 | call c =>
   obtain ⟨callee,args,argTypes⟩:=c
   cases callee with
   | value g =>
     simp only; rw [← hE g (by simp [ho,Op.operands,Call.operands]),← hpure (by simp [ho])]; have hargs:=hlist args.toList (fun x hm=>by simp [ho,Op.operands,Call.operands]; exact .inr (by simpa using hm)); rw [← hargs]; have hg:=hx6 (by rw [ho]; rfl) g (by simp [ho,Op.operands,Call.operands])
     cases hq:E g with
     | fn f cap =>
       simp only
       have hcall:∀ a∈nrmA P (rawT C f argTypes) (args.toList.map E)++cap,∀ b∈a.ids L 5,L b=L' b:=by
        intro a ha b hb; rcases List.mem_append.1 ha with ha | ha
        · obtain ⟨j,hj⟩:=List.mem_iff_getElem?.1 ha; obtain ⟨a0,ha0,hc⟩:=zmq P _ _ j a hj
          have hb0:b∈a0.ids L 5:=by
           rcases hc with rfl | ⟨t,rfl⟩
           · exact hb
           · rw [nrm_ids] at hb; exact hb
          obtain ⟨x,hxm,rfl⟩:=List.mem_map.1 (List.mem_of_getElem? ha0); replace hb:=hb0; exact hx (by rw [ho]; rfl) x (by simp [ho,Op.operands,Call.operands]; exact .inr (by simpa using hxm)) b hb
        · rw [hq] at hg; exact hg b (by simp only [AV.ids]; exact List.mem_flatMap.2 ⟨a,ha,hb⟩)
       cases hdp:C.dp f with
       | some k0 =>
         simp only; rw [ztt hcall]
         cases hdq:o.dst with
         | none=>rfl
         | some d =>
           have e:dstOut L (some d)=dstOut L' (some d):=by show (L d).isNone=(L' d).isNone; rw [hd d hdq]
           rw [e]
       | none =>
         cases hdq:o.dst with
         | none=>simp only; rw [zoR hcall]
         | some d=>simp only; rw [hd d hdq,zoR hcall]
     | _=>rfl
   | invoke r m=>simp only; exact hpure (by simp [ho])
   | builtin bi =>
     cases bi with
     | append =>
       simp only
       cases hdq:o.dst with
       | none=>rfl
       | some d =>
         cases ha:args.toList with
         | nil=>rfl
         | cons s l=>cases l with
           | nil=>rfl
           | cons x l=>cases l with
             | cons _ _=>rfl
             | nil=>cases ht:argTypes.toList with
               | nil=>rfl
               | cons t l=>cases l with
                 | nil=>rfl
                 | cons t' l=>cases l with
                   | cons _ _=>rfl
                   | nil =>
                     simp only; rw [hd d hdq]; have hs:=hE s (by simp [ho,Op.operands,Call.operands]; rw [← Array.mem_toList_iff,ha]; simp); have hxx:=hE x (by simp [ho,Op.operands,Call.operands]; rw [← Array.mem_toList_iff,ha]; simp); have is:=hx (by rw [ho]; rfl) s (by simp [ho,Op.operands,Call.operands]; rw [← Array.mem_toList_iff,ha]; simp); have ix:=hx (by rw [ho]; rfl) x (by simp [ho,Op.operands,Call.operands]; rw [← Array.mem_toList_iff,ha]; simp); rw [← hs,← hxx]; have hsrc:∀ z,srcOf L z (E x)=srcOf L' z (E x):=fun z=>zsi ix
                     have:zfI P L d t (E s) (E x)=zfI P L' d t (E s) (E x):=by
                      unfold zfI; simp only [hsrc]
                      cases P.underlying t with
                      | none=>rfl
                      | some td =>
                        cases td with
                        | slice e =>
                          simp only
                          cases P.info? e with
                          | none=>rfl
                          | some i =>
                            cases zeroB P e with
                            | none=>rfl
                            | some zero =>
                              simp only; split
                              · cases srcOf L' i.size (E x) with
                                | none=>rfl
                                | some new =>
                                  simp only
                                  cases hq:E s with
                                  | row b z off n=>rw [hq] at is; simp only; rw [is b (by simp [AV.ids])]
                                  | v y=>cases y with
                                    | slice A l c=>cases A <;> cases l <;> cases c <;> rfl
                                    | _=>rfl
                                  | _=>rfl
                              · rfl
                        | _=>rfl
                     rw [this]
     | copy =>
       simp only; split
       · rename_i s x t tr ha ht; have hs:=hE s (by simp [ho,Op.operands,Call.operands]; rw [← Array.mem_toList_iff,ha]; simp); have hxx:=hE x (by simp [ho,Op.operands,Call.operands]; rw [← Array.mem_toList_iff,ha]; simp); have is:=hx (by rw [ho]; rfl) s (by simp [ho,Op.operands,Call.operands]; rw [← Array.mem_toList_iff,ha]; simp); have ix:=hx (by rw [ho]; rfl) x (by simp [ho,Op.operands,Call.operands]; rw [← Array.mem_toList_iff,ha]; simp); rw [← hs,← hxx]; unfold aCopy; have hsrc:∀ z,srcOf L z (E x)=srcOf L' z (E x):=fun z=>zsi ix
         simp only [hsrc]
         cases hu:P.underlying t with
         | none=>rfl
         | some td =>
           cases td with
           | slice e =>
             simp only
             cases hz:szB P e with
             | none=>rfl
             | some sz =>
               cases hq:E s with
               | row b z off n=>rw [hq] at is; simp only; rw [is b (by simp [AV.ids])]
               | _=>rfl
           | _=>rfl
       · rfl
     | clear =>
       simp only; split
       · rename_i s t tr ha ht; have hs:=hE s (by simp [ho,Op.operands,Call.operands]; rw [← Array.mem_toList_iff,ha]; simp); have is:=hx (by rw [ho]; rfl) s (by simp [ho,Op.operands,Call.operands]; rw [← Array.mem_toList_iff,ha]; simp); rw [← hs]; unfold aClear
         cases hu:P.underlying t with
         | none=>rfl
         | some td =>
           cases td with
           | slice e =>
             simp only
             cases hz:szB P e with
             | none=>rfl
             | some sz =>
               cases hzz:zeroB P e with
               | none=>rfl
               | some zero =>
                 cases hq:E s with
                 | row b z off n=>rw [hq] at is; simp only; rw [is b (by simp [AV.ids])]
                 | _=>rfl
           | _=>rfl
       · rfl
     | len =>
       simp only; split
       · rename_i s t ha ht; have hs:=hE s (by simp [ho,Op.operands,Call.operands]; rw [← Array.mem_toList_iff,ha]; simp); have is:=hx (by rw [ho]; rfl) s (by simp [ho,Op.operands,Call.operands]; rw [← Array.mem_toList_iff,ha]; simp); have hme:aMLen L (E s)=aMLen L' (E s):=by unfold aMLen; rw [zr2 is]
         rw [← hs,hpure (by simp [ho])]; revert hme; generalize E s=q; intro hme; generalize P.underlying t=u
         cases q <;> first | rfl | (cases u with
          | none=>rfl
          | some td=>cases td <;> first | rfl | exact hme)
       · rfl
     | delete =>
       simp only; split
       · rename_i m k t tr ha ht; have hs:=hE m (by simp [ho,Op.operands,Call.operands]; rw [← Array.mem_toList_iff,ha]; simp); have hk:=hE k (by simp [ho,Op.operands,Call.operands]; rw [← Array.mem_toList_iff,ha]; simp); have is:=hx (by rw [ho]; rfl) m (by simp [ho,Op.operands,Call.operands]; rw [← Array.mem_toList_iff,ha]; simp); rw [← hs,← hk]; unfold aMDel
         cases hq:E m with
         | map b=>rw [hq] at is; simp only; rw [is b (by simp [AV.ids])]
         | _=>rfl
       · rfl
     | _=>simp only; exact hpure (by simp [ho])
 | makeMap t q =>
   cases q with
   | some r=>simp only; exact hpure (by simp [ho])
   | none =>
     simp only
     cases hq:o.dst with
     | none=>rfl
     | some d=>simp only; rw [hd d hq]
 | lookup t m k ok=>simp only; rw [← hE m (by simp [ho,Op.operands]),← hE k (by simp [ho,Op.operands])]; unfold aMLook; rw [zr2 (hx (by rw [ho]; rfl) m (by simp [ho,Op.operands]))]
 | mapUpdate t m k x=>simp only; rw [← hE m (by simp [ho,Op.operands]),← hE k (by simp [ho,Op.operands]),← hE x (by simp [ho,Op.operands])]; exact zoT (hx (by rw [ho]; rfl) m (by simp [ho,Op.operands])) (hx (by rw [ho]; rfl) x (by simp [ho,Op.operands]))
 | insert t m k x=>simp only; rw [← hE m (by simp [ho,Op.operands]),← hE k (by simp [ho,Op.operands]),← hE x (by simp [ho,Op.operands])]; exact zoT (hx (by rw [ho]; rfl) m (by simp [ho,Op.operands])) (hx (by rw [ho]; rfl) x (by simp [ho,Op.operands]))
 | convert u t x=>simp only; rw [hE x (by simp [ho,Op.operands]),hpure (by simp [ho])]
 | binOp op t x y u=>simp only; rw [hE x (by simp [ho,Op.operands]),hE y (by simp [ho,Op.operands]),hpure (by simp [ho])]
 | select cs b=>rfl
 | _=>simp only; exact hpure (by simp [ho])
end
end Go.Ab
namespace Go.Ab
open Go.RowKit
variable [Dr]
abbrev FS:=(Nat→AV)×(Nat→Option Ent)
def evF (T:Nat→AV):Operand→AV
 | .tmp k=>T k
 | .const x=>.v x
 | .func f=>.fn f []
 | .global _=>.bot
theorem ev_eq (t:Tab):ev t=evF (get t):=by funext x; cases x <;> rfl
def ziI (ops:Array Oper) (o:Oper) (T:Nat→AV):Option Bool:=
 match o.guard with
 | none=>some true
 | some (j,want)=>match (ops[j]?).bind (·.dst) with
   | some d=>match T d with
     | .v (.bool b)=>some (b == want)
     | .v (.tuple _)=>some false
     | _=>none
   | none=>none
theorem wanted_eq (ops:Array Oper) (o:Oper) (t:Tab):zj2 ops o t=ziI ops o (get t):=rfl
def aStepF (P:Program) (C:Cfg) (M:List Nat) (call:zaX) (N:Nat) (ops:Array Oper) (o:Oper) (x:FS):Option Res:=
 if dstOk N o.dst then
  match ziI ops o x.1 with
  | some true=>aop P C M call o (evF x.1) x.2
  | some false=>some { val:=.v undef }
  | none=>none
 else none
def appF (o:Oper) (r:Res) (x:FS):FS:=(applyT o.dst r x.1 x.2,applyL r x.2)
def fs (st:St):FS:=(get st.t,look st.m)
theorem zpr {P:Program} {C:Cfg} {M:List Nat} {call:zaX} {N:Nat} {ops:Array Oper} {o:Oper} {st st':St} {r:Res} (h:aStep P C M call N ops o st=some (r,st')):aStepF P C M call N ops o (fs st)=some r∧fs st'=appF o r (fs st):=by
 have key:∀ r,fs (applyR o.dst r st)=appF o r (fs st):=fun r=>by
  unfold fs appF; congr 1
  · funext k; exact get_apply o.dst r st k
  · funext c; exact look_apply o.dst r st c
 unfold aStep at h; unfold aStepF; split at h
 case isFalse=>cases h
 rename_i hd; rw [if_pos hd]; rw [wanted_eq,ev_eq] at h; change _=_∧_; simp only [fs] at *; split at h
 · rename_i hw; simp only [hw]; split at h
   · rename_i r' hr; simp only [Option.some.injEq,Prod.mk.injEq] at h; obtain ⟨rfl,rfl⟩:=h; exact ⟨hr,key _⟩
   · cases h
 · rename_i hw; simp only [hw]; simp only [Option.some.injEq,Prod.mk.injEq] at h; obtain ⟨rfl,rfl⟩:=h; exact ⟨rfl,key _⟩
 · cases h
section
variable {P:Program} {C:Cfg} {M:List Nat} {call:zaX} {N:Nat} {ops:Array Oper} {Q:Exit→Act→World→Prop}
variable {w0:World} {S0:Nat→Prop} {κ0:Kap} {K:Nat→Prop}
def GoodF (w0:World) (S0:Nat→Prop) (κ0:Kap) (K:Nat→Prop) (N:Nat) (x:FS) (a:Act) (w:World):Prop:=∃ S κ,Good w0 S0 κ0 K N S κ x.1 x.2 a w
theorem znX {S:Nat→Prop} {κ:Kap} {D:Nat→Prop} {w:World} {o:Oper} {T:Nat→AV} {tm:Array Value} {b:Bool} (hT:∀ k,VRel S κ D w (T k) (tm.getD k undef)) (h:ziI ops o T=some b):Region.wanted o (yielded ops tm)=b:=by
 unfold ziI at h; unfold Region.wanted; split at h
 · rename_i hg; simp only [hg]; injection h
 · rename_i j want hg; simp only [hg]; split at h
   case h_2=>cases h
   rename_i d hd; split at h
   · rename_i bb hb; have h1:=hT d; rw [hb] at h1; have h2:=h1.v_inv
     have h3:tm[d]?=some (.bool bb):=by
      rw [Array.getD_eq_getD_getElem?] at h2
      cases hq:tm[d]? with
      | none=>rw [hq] at h2; cases h2
      | some y=>rw [hq] at h2; simpa using h2
     injection h with h; simp only [yielded,hd,Option.bind_some,h3]; rw [← h]; cases bb <;> cases want <;> rfl
   · rename_i vs hb; have h1:=hT d; rw [hb] at h1; have h2:=h1.v_inv; injection h with h
     have h3:yielded ops tm j=none:=by
      simp only [yielded,hd,Option.bind_some]; rw [Array.getD_eq_getD_getElem?] at h2
      cases hq:tm[d]? with
      | none=>rfl
      | some y=>rw [hq] at h2; simp at h2; subst h2; rfl
     rw [h3,← h]; rfl
   · cases h
theorem zls (hcall:CallOK P call) (hN:N≤1000) {i:Nat} {o:Oper} (hi:ops[i]?=some o) {x:FS} {r:Res} (h:aStepF P C M call N ops o x=some r) {a:Act} {w:World} (hg:GoodF w0 S0 κ0 K N x a w)
  {Kc:Act→World→Prop} (hK:∀ a' w',GoodF w0 S0 κ0 K N (appF o r x) a' w'→Kc a' w'):wpOp P ops Q i Kc a w:=by
 obtain ⟨S,κ,hg⟩:=hg; unfold aStepF at h; split at h
 case isFalse=>cases h
 rename_i hd; unfold wpOp; simp only [hi]; split at h
 · rename_i hw; rw [if_pos (znX hg.slots hw)]; refine .inl (aop_sound (D:=fun b=>(x.2 b).isSome=true) hcall hg.slt hg.okw (fun _=>Iff.rfl) hg.inj hg.ents ?_ h ?_)
   · intro y hy
     cases y with
     | tmp k=>exact hg.slots k
     | const v=>exact .c (.v _)
     | func f=>exact .c (.fn f [] #[] rfl (by simp))
     | global g=>exact .bot _
   · intro y w' S' κ' he hdis; exact hK _ _ ⟨S',κ',hg.apply hN hd he hdis (aop_shape h)⟩
 · rename_i hw; rw [if_neg (by rw [znX hg.slots hw]; simp)]; injection h with h; subst h; refine hK _ _ ⟨S,κ,hg.apply (y:=undef) hN hd (EffAt.still hg.slt (.c (.v _)) rfl rfl rfl rfl) ?_ (Shape.none rfl rfl rfl)⟩; intro b hb; cases hb
 · cases h
theorem zsc (hcall:CallOK P call) (hN:N≤1000):∀ (l:List Oper) (k:Nat) (st st':St) (rs:List Mk),runOps P C M call N ops k l st=some (rs,st')→(∀ j o,l[j]?=some o→ops[k+j]?=some o)→∀ (a:Act) (w:World),GoodF w0 S0 κ0 K N (fs st) a w→(∀ a' w',GoodF w0 S0 κ0 K N (fs st') a' w'→Q .normal a' w')→wpOps P ops Q (List.range' k l.length) a w
 | [],k,st,st',rs,h,_,a,w,hg,hQ=>by simp [runOps] at h; obtain ⟨_,rfl⟩:=h; exact hQ a w hg
 | o :: l,k,st,st',rs,h,hl,a,w,hg,hQ=>by
   simp only [runOps] at h
   cases hs:aStep P C M call N ops o st with
   | none=>simp [hs] at h
   | some q =>
     obtain ⟨r,st1⟩:=q; simp only [hs] at h
     cases ho:runOps P C M call N ops (k+1) l st1 with
     | none=>simp [ho] at h
     | some q=>obtain ⟨rs',st2⟩:=q; simp only [ho,Option.some.injEq,Prod.mk.injEq] at h; obtain ⟨_,rfl⟩:=h; obtain ⟨e1,e2⟩:=zpr hs; rw [List.length_cons,List.range'_succ,wpOps_cons]; refine zls hcall hN (hl 0 o rfl) e1 hg (fun a' w' hg'=>?_); rw [← e2] at hg'; exact zsc hcall hN l (k+1) st1 st2 rs' ho (fun j o' hj=>by have:=hl (j+1) o' (by simpa using hj); rw [← this]; congr 1; omega) a' w' hg' hQ
theorem GoodF.del {st:St} {a:Act} {w:World} (h:GoodF w0 S0 κ0 K N (fs st) a w) (b:Nat):GoodF w0 S0 κ0 K N (fs (del b st)) a w:=by
 obtain ⟨S,κ,h⟩:=h; refine ⟨S,κ,?_⟩; have:=h.del b; have e1:(fs (Ab.del b st)).1=fun k=>((fs st).1 k).kill b 4:=funext fun k=>zgk b st.t k
 have e2:(fs (Ab.del b st)).2=killL b (fs st).2:=funext fun c=>zdn b st.m c
 rw [e1,e2]; exact this
theorem GoodF.preDel {a:Act} {w:World}:∀ (l:List Oper) (st:St),GoodF w0 S0 κ0 K N (fs st) a w→GoodF w0 S0 κ0 K N (fs (preDel l st)) a w
 | [],st,h=>h
 | o :: l,st,h=>by
   simp only [Ab.preDel]; refine GoodF.preDel l _ ?_; split
   · split
     · exact h.del _
     · exact h
   · exact h
def Agree (lk tc:List Nat) (x y:FS):Prop:=(∀ k∈lk,x.1 k=y.1 k)∧∀ b∈tc,x.2 b=y.2 b
theorem ztY {o:Oper} {x y:FS} (h:Agree (Oper.looks ops o) (zgL o (evF x.1) x.2) x y):aStepF P C M call N ops o x=aStepF P C M call N ops o y:=by
 have hw:ziI ops o x.1=ziI ops o y.1:=by
  unfold ziI
  cases hg:o.guard with
  | none=>rfl
  | some p =>
    obtain ⟨j,want⟩:=p; simp only
    cases hd:(ops[j]?).bind (·.dst) with
    | none=>rfl
    | some d=>simp only; rw [h.1 d (by simp [Oper.looks,hg,hd])]
 have hE:∀ z∈o.op.operands,evF x.1 z=evF y.1 z:=by
  intro z hz
  cases z with
  | tmp k=>exact h.1 k (by
    simp only [Oper.looks,List.mem_append]
    exact .inl (List.mem_filterMap.2 ⟨.tmp k,by simpa using hz,rfl⟩))
  | _=>rfl
 unfold aStepF; rw [hw,aop_congr hE h.2]
def A (m:Mk) (x:FS):FS:=appF m.o m.res x
def stp (ml:List Mk) (x0:FS) (p:Nat→Bool):Nat→FS
 | 0=>x0
 | m+1=>match ml[m]? with
   | some k=>if p m then A k (stp ml x0 p m) else stp ml x0 p m
   | none=>stp ml x0 p m
theorem zhG {a b:List Nat} (h:disj a b=true):∀ x∈a,∀ y∈b,x≠y:=by intro x hx y hy; have h1:=List.all_eq_true.1 h x hx; have h2:=List.all_eq_true.1 h1 y hy; simpa using h2
theorem zgF {c:Nat}:∀ (k:Nat) (a:AV),a.inert c k=true→a.kill c k=a
 | 0,a,h=>by cases a <;> simp [AV.inert,AV.kill] at h ⊢
 | k+1,a,h=>by
   cases a with
   | loc c' z i o=>simp only [AV.inert,bne_iff_ne,ne_eq] at h; simp [AV.kill,h]
   | row c' z i o=>simp only [AV.inert,bne_iff_ne,ne_eq] at h; simp [AV.kill,h]
   | agg cs =>
     simp only [AV.inert,List.all_eq_true] at h; simp only [AV.kill,AV.agg.injEq]
     conv=>rhs; rw [← List.map_id cs]
     exact List.map_congr_left fun x hx=>zgF k x (h x hx)
   | tup cs =>
     simp only [AV.inert,List.all_eq_true] at h; simp only [AV.kill,AV.tup.injEq]
     conv=>rhs; rw [← List.map_id cs]
     exact List.map_congr_left fun x hx=>zgF k x (h x hx)
   | fn f cs =>
     simp only [AV.inert,List.all_eq_true] at h; simp only [AV.kill,AV.fn.injEq,true_and]
     conv=>rhs; rw [← List.map_id cs]
     exact List.map_congr_left fun x hx=>zgF k x (h x hx)
   | v x=>rfl
   | sl z es=>rfl
   | fp cs=>rfl
   | bot=>rfl
   | map c'=>simp only [AV.inert,bne_iff_ne,ne_eq] at h; simp [AV.kill,h]
   | mp es=>rfl
   | fa z es=>rfl
   | _=>simp [AV.inert] at h
theorem zo2 {c:Nat} {e:Ent} (h:e.inert c=true):killE c e=e:=by
 obtain ⟨z,t,es,box⟩:=e; unfold Ent.inert at h; unfold killE
 cases box with
 | false=>rfl
 | true =>
   simp only [if_true,List.all_eq_true] at h; simp only [if_true,Ent.mk.injEq,true_and,and_true]
   conv=>rhs; rw [← List.map_id es]
   refine List.map_congr_left fun cs hcs=>?_
   conv=>rhs; rw [id,← List.map_id cs]
   exact List.map_congr_left fun x hx=>zgF 4 x (h cs hcs x hx)
def Calm (c:Nat) (lk tc:List Nat) (x:FS):Prop:=(∀ k∈lk,(x.1 k).kill c 4=x.1 k)∧∀ q∈tc,killL c x.2 q=x.2 q
theorem Calm.congr {c:Nat} {lk tc:List Nat} {x y:FS} (h:Calm c lk tc x) (ha:Agree lk tc y x):Calm c lk tc y:=
 ⟨fun k hk=>by rw [ha.1 k hk]; exact h.1 k hk,fun q hq=>by
  have:=h.2 q hq; unfold killL at this ⊢; rw [ha.2 q hq]
  exact this⟩
structure Ind (ops:Array Oper) (a b:Mk):Prop where
 ba:bar a=false
 bb:bar b=false
 kk:a.res.kill=none∨b.res.kill=none
 d1:∀ d,a.o.dst=some d→d ∉ Oper.looks ops b.o
 d2:∀ d,b.o.dst=some d→d ∉ Oper.looks ops a.o
 d3:∀ d,a.o.dst=some d→b.o.dst≠some d
 s1:∀ c∈ids a.res.set,c ∉ b.touch
 s2:∀ c∈ids b.res.set,c ∉ a.touch
 s3:∀ c∈ids a.res.set,c ∉ ids b.res.set
 v1:∀ c,a.res.kill=some c→b.res.val.kill c 4=b.res.val∧∀ q e,look b.res.set q=some e→q≠c∧killE c e=e
 v2:∀ c,b.res.kill=some c→a.res.val.kill c 4=a.res.val∧∀ q e,look a.res.set q=some e→q≠c∧killE c e=e
 g1:∀ c,a.res.kill=some c→Calm c (Oper.looks ops b.o) b.touch (fs a.pre)
 g2:∀ c,b.res.kill=some c→Calm c (Oper.looks ops a.o) a.touch (fs a.pre)
theorem zrY:∀ {l:List (Nat×Ent)} {q:Nat} {e:Ent},look l q=some e→(q,e)∈l
 | [],q,e,h=>by simp [look] at h
 | (j,e') :: r,q,e,h=>by
   simp only [look] at h; split at h
   · rename_i hj; injection h with h; subst h
     simp_all
   · exact List.mem_cons_of_mem _ (zrY h)
theorem zjS {c:Nat} {m:Mk} {pre:St} (h:quiet ops (some c) m pre=true):(m.res.val.kill c 4=m.res.val∧∀ q e,look m.res.set q=some e→q≠c∧killE c e=e)∧Calm c (Oper.looks ops m.o) m.touch (fs pre):=by
 unfold quiet at h; simp only [Bool.and_eq_true,List.all_eq_true] at h; obtain ⟨⟨⟨h1,h2⟩,h3⟩,h4⟩:=h; refine ⟨⟨zgF 4 _ h1,fun q e hq=>?_⟩,fun k hk=>zgF 4 _ (h4 k hk),fun q hq=>?_⟩
 · have:=h2 (q,e) (zrY hq); exact ⟨by simpa using this.1,zo2 this.2⟩
 · have:=h3 q hq; have hne:q≠c:=by simpa using this.1
   have h5:=this.2; unfold killL; rw [if_neg hne]; change (look pre.m q).map (killE c)=look pre.m q
   cases hl:look pre.m q with
   | none=>rfl
   | some e=>rw [hl] at h5; simp only [Option.map_some]; rw [zo2 h5]
theorem Ind.of {a b:Mk} (h:indep ops a b=true):Ind ops a b:=by
 unfold indep at h; simp only [Bool.and_eq_true,Bool.not_eq_true'] at h; obtain ⟨⟨⟨⟨⟨⟨⟨⟨⟨⟨h1,h2⟩,hk⟩,q1⟩,q2⟩,h3⟩,h4⟩,h5⟩,h6⟩,h7⟩,h8⟩:=h; refine ⟨h1,h2,?_,fun d hd hm=>zhG h3 d (by simp [hd]) d hm rfl,fun d hd hm=>zhG h4 d (by simp [hd]) d hm rfl,fun d hd hm=>zhG h5 d (by simp [hd]) d (by simp [hm]) rfl,fun c hc hm=>zhG h6 c hc c hm rfl,fun c hc hm=>zhG h7 c hc c hm rfl,fun c hc hm=>zhG h8 c hc c hm rfl,fun c hc=>?_,fun c hc=>?_,fun c hc=>?_,fun c hc=>?_⟩
 · rcases Bool.or_eq_true _ _▸hk with h | h
   · exact .inl (by simpa using h)
   · exact .inr (by simpa using h)
 · rw [hc] at q1; exact (zjS q1).1
 · rw [hc] at q2; exact (zjS q2).1
 · rw [hc] at q1; exact (zjS q1).2
 · rw [hc] at q2; exact (zjS q2).2
theorem bar_false {m:Mk} (h:bar m=false):m.res.frz=[]∧m.res.re=[]:=by unfold bar at h; cases hq:m.res.frz <;> cases hr:m.res.re <;> simp_all
theorem zis {m:Mk} (h:bar m=false) (x:FS):A m x=(fun k=>if m.o.dst=some k then m.res.val else killO m.res.kill (x.1 k),fun c=>match look m.res.set c with | some e=>some e | none=>killLO m.res.kill x.2 c):=by
 obtain ⟨h2,h3⟩:=bar_false h; unfold A appF; congr 1
 · funext k; simp only [applyT,h2,h3,frzO,killR]
 · funext c; simp only [applyL,h2,h3,frzLO,killLR]
   try rfl
theorem ziY {l:List (Nat×Ent)} {c:Nat} (h:c ∉ ids l):look l c=none:=by
 cases hq:look l c with
 | none=>rfl
 | some e=>exact absurd (zp8.1 (by simp [hq])) h
theorem A_comm0 {a b:Mk} (ha:bar a=false) (hb:bar b=false) (hk:a.res.kill=none) (d3:∀ d,a.o.dst=some d→b.o.dst≠some d) (s3:∀ c∈ids a.res.set,c ∉ ids b.res.set)
  (v2:∀ c,b.res.kill=some c→a.res.val.kill c 4=a.res.val∧∀ q e,look a.res.set q=some e→q≠c∧killE c e=e) (x:FS):A a (A b x)=A b (A a x):=by
 rw [zis ha (A b x),zis hb x,zis hb (A a x),zis ha x]; simp only [hk,killO,killLO]; congr 1
 · funext k; by_cases h1:a.o.dst=some k
   · have h2:¬ b.o.dst=some k:=d3 k h1; simp only [h1,h2,if_true,if_false]
     cases hq:b.res.kill with
     | none=>rfl
     | some c=>exact ((v2 c hq).1).symm
   · simp only [h1,if_false]
 · funext c; by_cases h1:c∈ids a.res.set
   · have h2:look b.res.set c=none:=ziY (s3 c h1); obtain ⟨e,he⟩:=Option.isSome_iff_exists.1 (zp8.2 h1); simp only [he,h2]
     cases hq:b.res.kill with
     | none=>simp only [he]
     | some c'=>obtain ⟨q1,q2⟩:=(v2 c' hq).2 c e he; simp only [killL,he,if_neg q1,Option.map_some,q2]
   · simp only [ziY h1]
     cases look b.res.set c with
     | some e=>rfl
     | none =>
       simp only
       cases hq:b.res.kill with
       | none=>simp only [ziY h1]
       | some c'=>simp only [killL,ziY h1]
theorem A_comm {a b:Mk} (h:Ind ops a b) (x:FS):A a (A b x)=A b (A a x):=by
 rcases h.kk with hk | hk
 · exact A_comm0 h.ba h.bb hk h.d3 h.s3 h.v2 x
 · exact (A_comm0 h.bb h.ba hk (fun d hd hm=>h.d3 d hm hd) (fun c hc hm=>h.s3 c hm hc) h.v1 x).symm
theorem A_agree {m:Mk} {lk tc:List Nat} (hb:bar m=false) (h1:∀ d,m.o.dst=some d→d ∉ lk) (h2:∀ c∈ids m.res.set,c ∉ tc) (x:FS) (hk:∀ c,m.res.kill=some c→Calm c lk tc x):Agree lk tc (A m x) x:=by
 rw [zis hb]; refine ⟨fun k hkm=>?_,fun c hc=>?_⟩
 · have:¬ m.o.dst=some k:=fun e=>h1 k e hkm
   simp only [this,if_false]
   cases hq:m.res.kill with
   | none=>rfl
   | some c=>exact (hk c hq).1 k hkm
 · have:look m.res.set c=none:=ziY (fun hm=>h2 c hm hc); simp only [this]
   cases hq:m.res.kill with
   | none=>rfl
   | some c'=>exact (hk c' hq).2 c hc
theorem A_agree2 {m:Mk} {lk tc:List Nat} (hb:bar m=false) {x y:FS} (h:Agree lk tc x y):Agree lk tc (A m x) (A m y):=by
 rw [zis hb,zis hb]; refine ⟨fun k hk=>?_,fun c hc=>?_⟩
 · simp only; rw [h.1 k hk]
 · simp only
   cases look m.res.set c with
   | some e=>rfl
   | none =>
     simp only
     cases m.res.kill with
     | none=>exact h.2 c hc
     | some c'=>simp only [killLO,killL]; rw [h.2 c hc]
theorem Agree.trans {lk tc:List Nat} {x y z:FS} (h:Agree lk tc x y) (h':Agree lk tc y z):Agree lk tc x z:=⟨fun k hk=>(h.1 k hk).trans (h'.1 k hk),fun c hc=>(h.2 c hc).trans (h'.2 c hc)⟩
theorem Agree.symm {lk tc:List Nat} {x y:FS} (h:Agree lk tc x y):Agree lk tc y x:=⟨fun k hk=>(h.1 k hk).symm,fun c hc=>(h.2 c hc).symm⟩
theorem Agree.refl {lk tc:List Nat} (x:FS):Agree lk tc x x:=⟨fun _ _=>rfl,fun _ _=>rfl⟩
theorem zqW:∀ (l:List Oper) (i:Nat) (st st':St) (ml:List Mk),runOps P C M call N ops i l st=some (ml,st')→ml.length=l.length∧(∀ m k,ml[m]?=some k→k.i=i+m∧l[m]?=some k.o∧fs k.pre=stp ml (fs st) (fun _=>true) m∧aStepF P C M call N ops k.o (stp ml (fs st) (fun _=>true) m)=some k.res∧k.touch=zgL k.o (evF (stp ml (fs st) (fun _=>true) m).1) (stp ml (fs st) (fun _=>true) m).2)∧fs st'=stp ml (fs st) (fun _=>true) l.length
 | [],i,st,st',ml,h=>by simp [runOps] at h; obtain ⟨rfl,rfl⟩:=h; exact ⟨rfl,by simp,rfl⟩
 | o :: l,i,st,st',ml,h=>by
   simp only [runOps] at h
   cases hs:aStep P C M call N ops o st with
   | none=>simp [hs] at h
   | some q =>
     obtain ⟨r,st1⟩:=q; simp only [hs] at h
     cases hm:runOps P C M call N ops (i+1) l st1 with
     | none=>simp [hm] at h
     | some q =>
       obtain ⟨ml1,st2⟩:=q; simp only [hm,Option.some.injEq,Prod.mk.injEq] at h; obtain ⟨rfl,rfl⟩:=h; obtain ⟨e1,e2⟩:=zpr hs; obtain ⟨i1,i2,i3⟩:=zqW l (i+1) st1 st2 ml1 hm
       have hstp:∀ m,stp ({ i:=i,o:=o,res:=r,touch:=zgL o (ev st.t) (look st.m),pre:=st } :: ml1) (fs st) (fun _=>true) (m+1)=stp ml1 (fs st1) (fun _=>true) m:=by
        intro m
        induction m with
        | zero=>simp [stp,A,e2]
        | succ m ih=>rw [stp]; simp only [List.getElem?_cons_succ]; rw [ih]; rfl
       refine ⟨by simp [i1],fun m k hk=>?_,?_⟩
       · cases m with
         | zero=>simp at hk; subst hk; exact ⟨rfl,rfl,rfl,e1,by rw [ev_eq]; rfl⟩
         | succ m=>rw [hstp m]; obtain ⟨q1,q2,q5,q3,q4⟩:=i2 m k (by simpa using hk); exact ⟨by omega,by simpa using q2,q5,q3,q4⟩
       · rw [List.length_cons,hstp,i3]
theorem zoZ:∀ (ml:List Mk),drawOk ops ml=true→∀ (i j:Nat) (a b:Mk),i < j→ml[i]?=some a→ml[j]?=some b→(preds ops b.i b.i).contains a.i=true∨indep ops a b=true
 | [],_,i,j,a,b,_,h,_=>by simp at h
 | m :: ml,h,i,j,a,b,hij,ha,hb=>by
   simp only [drawOk,Bool.and_eq_true] at h
   cases j with
   | zero=>omega
   | succ j =>
     cases i with
     | zero=>simp at ha; subst ha; have:=List.all_eq_true.1 h.1 b (List.mem_of_getElem? (by simpa using hb)); simpa using this
     | succ i=>exact zoZ ml h.2 i j a b (by omega) (by simpa using ha) (by simpa using hb)
theorem znz:∀ (l:List Oper) (i:Nat),zhH i l=true→∀ j o,l[j]?=some o→∀ e∈o.after,Region.binds .any e=true→e.on < i+j
 | [],_,_,j,o,h,_,_,_=>by simp at h
 | q :: l,i,h,j,o,hj,e,he,hb=>by
   simp only [zhH,Bool.and_eq_true] at h
   cases j with
   | zero=>simp at hj; subst hj; have:=List.all_eq_true.1 h.1 e (by simpa using he); simp [hb] at this; omega
   | succ j=>have:=znz l (i+1) h.2 j o (by simpa using hj) e he hb; omega
def DC (ops:Array Oper) (p:Nat→Bool):Prop:=∀ j o,ops[j]?=some o→p j=true→∀ e∈o.after,Region.binds .any e=true→p e.on=true
theorem preds_in {p:Nat→Bool} (hdc:DC ops p):∀ (k i:Nat),(∀ o,ops[i]?=some o→∀ e∈o.after,Region.binds .any e=true→p e.on=true)→∀ j∈preds ops k i,p j=true:=by
 intro k
 induction k with
 | zero=>intro i _ j hj; simp [preds] at hj
 | succ k ih =>
   intro i h j hj; simp only [preds] at hj
   cases ho:ops[i]? with
   | none=>simp [ho] at hj
   | some o =>
     simp only [ho] at hj; obtain ⟨e,he,hj⟩:=List.mem_flatMap.1 hj; split at hj
     · rename_i hb; have hon:=h o ho e (by simpa using he) hb; rcases List.mem_cons.1 hj with rfl | hj
       · exact hon
       · exact ih e.on (fun o' ho' e' he' hb'=>hdc e.on o' ho' hon e' he' hb') j hj
     · cases hj
theorem stp_all {ml:List Mk} {x0:FS} {p:Nat→Bool}:∀ (m:Nat),(∀ j,j < m→p j=true)→stp ml x0 p m=stp ml x0 (fun _=>true) m
 | 0,_=>rfl
 | m+1,h=>by simp only [stp]; rw [stp_all m (fun j hj=>h j (by omega)),h m (by omega)]; cases ml[m]? <;> simp
theorem stp_agree {ml:List Mk} {x0:FS} {p:Nat→Bool} {i:Nat} {ki:Mk} (hi:ml[i]?=some ki) (hpi:p i=false)
  (hfs:∀ m k,ml[m]?=some k→fs k.pre=stp ml x0 (fun _=>true) m)
  (hind:∀ (i j:Nat) (a b:Mk),i < j→ml[i]?=some a→ml[j]?=some b→(preds ops j j).contains i=true∨Ind ops a b)
  (hdc:∀ j,p j=true→∀ q∈preds ops j j,p q=true) (hpre:∀ q∈preds ops i i,p q=true) (n:Nat) (hin:i≤n):Agree (Oper.looks ops ki.o) ki.touch (stp ml x0 p n) (stp ml x0 (fun _=>true) i):=by
 have before:∀ m,m≤i→Agree (Oper.looks ops ki.o) ki.touch (stp ml x0 p m) (stp ml x0 (fun _=>true) m):=by
  intro m
  induction m with
  | zero=>intro _; exact Agree.refl _
  | succ m ih =>
    intro hm; have ih:=ih (by omega); simp only [stp]
    cases hq:ml[m]? with
    | none=>exact ih
    | some k =>
      simp only [if_true]
      cases hp:p m with
      | true =>
        simp only [if_true]
        cases hb:bar k with
        | false=>exact A_agree2 hb ih
        | true =>
          have:stp ml x0 p m=stp ml x0 (fun _=>true) m:=stp_all m (fun j hj=>by
           cases hqj:ml[j]? with
           | none =>
             have h1:ml.length≤j:=by simpa using hqj
             have h2:=(List.getElem?_eq_some_iff.1 hq).1; omega
           | some kj =>
             rcases hind j m kj k hj hqj hq with h | h
             · exact hdc m hp j (by simpa using h)
             · rw [h.bb] at hb; cases hb)
          rw [this]; exact Agree.refl _
      | false =>
        simp only [Bool.false_eq_true,if_false]; rcases hind m i k ki (by omega) hq hi with h | h
        · have:=hpre m (by simpa using h); rw [hp] at this; cases this
        · exact ih.trans (A_agree h.ba h.d1 h.s1 _ (fun c hc=>by rw [← hfs m k hq]; exact h.g1 c hc)).symm
 have after:∀ m,i≤m→Agree (Oper.looks ops ki.o) ki.touch (stp ml x0 p m) (stp ml x0 p i):=by
  intro m
  induction m with
  | zero =>
    intro hm; have:i=0:=by omega
    subst this; exact Agree.refl _
  | succ m ih =>
    intro hm; by_cases he:i=m+1
    · subst he; exact Agree.refl _
    · have ih:=ih (by omega); simp only [stp]
      cases hq:ml[m]? with
      | none=>exact ih
      | some k =>
        simp only
        cases hp:p m with
        | false=>exact ih
        | true =>
          simp only [if_true]
          have hlt:i < m:=by
           rcases Nat.lt_or_ge i m with h | h
           · exact h
           · obtain rfl:i=m:=by omega
             rw [hpi] at hp; cases hp
          rcases hind i m ki k hlt hi hq with h | h
          · have:=hdc m hp i (by simpa using h); rw [hpi] at this; cases this
          · exact (A_agree h.bb h.d2 h.s2 _ (fun c hc=>(h.g2 c hc).congr (by rw [hfs i ki hi]; exact ih.trans (before i (Nat.le_refl _))))).trans ih
 exact (after n hin).trans (before i (Nat.le_refl _))
theorem stp_put {ml:List Mk} {x0:FS} {p p':Nat→Bool} {i:Nat} {ki:Mk} (hi:ml[i]?=some ki) (hpi:p i=false) (hp':∀ j,p' j=if j=i then true else p j)
  (hind:∀ (i j:Nat) (a b:Mk),i < j→ml[i]?=some a→ml[j]?=some b→(preds ops j j).contains i=true∨Ind ops a b)
  (hdc:∀ j,p j=true→∀ q∈preds ops j j,p q=true) (n:Nat) (hin:i < n):A ki (stp ml x0 p n)=stp ml x0 p' n:=by
 have before:∀ m,m≤i→stp ml x0 p m=stp ml x0 p' m:=by
  intro m
  induction m with
  | zero=>intro _; rfl
  | succ m ih=>intro hm; simp only [stp]; rw [ih (by omega),hp' m,if_neg (by omega)]
 have after:∀ m,i < m→A ki (stp ml x0 p m)=stp ml x0 p' m:=by
  intro m
  induction m with
  | zero=>intro h; omega
  | succ m ih =>
    intro hm; by_cases he:i=m
    · subst he; simp only [stp,hi,hpi,hp' i,if_true,Bool.false_eq_true,if_false]; rw [before i (Nat.le_refl _)]
    · have ih:=ih (by omega); simp only [stp]
      cases hq:ml[m]? with
      | none=>exact ih
      | some k =>
        simp only; have hpm:p' m=p m:=by rw [hp' m,if_neg (fun e=>he e.symm)]
        rw [hpm]
        cases hp:p m with
        | false=>simpa using ih
        | true =>
          simp only [if_true]; rcases hind i m ki k (by omega) hi hq with h | h
          · have:=hdc m hp i (by simpa using h); rw [hpi] at this; cases this
          · rw [A_comm h,ih]
 exact after n hin
end
end Go.Ab
namespace Go.Ab
open Go.RowKit
variable [Dr]
section
variable {P:Program} {C:Cfg} {M:List Nat} {call:zaX} {N:Nat} {ops:Array Oper} {Q:Exit→Act→World→Prop}
variable {w0:World} {S0:Nat→Prop} {κ0:Kap} {K:Nat→Prop}
def pOf (listed:Array Bool):Nat→Bool:=fun j=>listed.getD j false
theorem pOf_put (listed:Array Bool) (i:Nat) (hi:i < listed.size):∀ j,pOf (listed.setIfInBounds i true) j=if j=i then true else pOf listed j:=by
 intro j; unfold pOf; by_cases hj:j=i
 · subst hj; simp [hi]
 · have:i≠j:=fun e=>hj e.symm
   simp [hj,Array.getElem?_setIfInBounds_ne this]
theorem pOf_none (n j:Nat):pOf (Array.replicate n false) j=false:=by unfold pOf; rw [Array.getD_eq_getD_getElem?,Array.getElem?_replicate]; split <;> rfl
def left_ (n:Nat) (p:Nat→Bool):Nat:=((List.range n).filter fun j=>!p j).length
theorem left_put {n i:Nat} {p p':Nat→Bool} (hi:i < n) (hpi:p i=false) (hp':∀ j,p' j=if j=i then true else p j):left_ n p' < left_ n p:=by
 unfold left_
 have h1:(List.range n).filter (fun j=>!p' j)=((List.range n).filter (fun j=>!p j)).filter (fun j=>j != i):=by
  rw [List.filter_filter]; apply List.filter_congr; intro j _; rw [hp' j]; by_cases hj:j=i
  · simp [hj]
  · simp [hj]
 rw [h1]; exact List.length_filter_lt_length_iff_exists.2 ⟨i,List.mem_filter.2 ⟨List.mem_range.2 hi,by simp [hpi]⟩,by simp⟩
theorem draw_sound (hcall:CallOK P call) (hN:N≤1000) {ml:List Mk} {x0:FS} (hlen:ml.length=ops.size)
  (hml:∀ m k,ml[m]?=some k→ops[m]?=some k.o∧fs k.pre=stp ml x0 (fun _=>true) m∧aStepF P C M call N ops k.o (stp ml x0 (fun _=>true) m)=some k.res∧k.touch=zgL k.o (evF (stp ml x0 (fun _=>true) m).1) (stp ml x0 (fun _=>true) m).2)
  (hind:∀ (i j:Nat) (a b:Mk),i < j→ml[i]?=some a→ml[j]?=some b→(preds ops j j).contains i=true∨Ind ops a b)
  (hedge:∀ j o,ops[j]?=some o→∀ e∈o.after,Region.binds .any e=true→e.on < j)
  (hQ:∀ a w,GoodF w0 S0 κ0 K N (stp ml x0 (fun _=>true) ops.size) a w→Q .normal a w):∀ (fuel:Nat) (listed:Array Bool) (a:Act) (w:World),listed.size=ops.size→left_ ops.size (pOf listed)≤fuel→DC ops (pOf listed)→GoodF w0 S0 κ0 K N (stp ml x0 (pOf listed) ops.size) a w→wpAny P .any ops Q fuel listed a w:=by
 have done:∀ (listed:Array Bool) (a:Act) (w:World),listed.size=ops.size→GoodF w0 S0 κ0 K N (stp ml x0 (pOf listed) ops.size) a w→Region.ready .any ops listed=[]→Q .normal a w:=by
  intro listed a w hs hg hr
  have hall:∀ j,j < ops.size→pOf listed j=true:=by
   intro j
   induction j using Nat.strongRecOn with
   | _ j ih =>
     intro hj
     cases hp:pOf listed j with
     | true=>rfl
     | false =>
       exfalso
       have hmem:j∈Region.ready .any ops listed:=by
        refine mem_ready.2 ⟨?_,ops[j],Array.getElem?_eq_getElem hj,fun e he hb=>?_⟩
        · unfold pOf at hp; have hjl:j < listed.size:=by omega
          simp [hjl] at hp ⊢; exact hp
        · have hlt:=hedge j _ (Array.getElem?_eq_getElem hj) e he hb; exact ih e.on hlt (by omega)
       rw [hr] at hmem; cases hmem
  rw [stp_all ops.size hall] at hg; exact hQ a w hg
 have step:∀ (listed:Array Bool) (a:Act) (w:World) (i:Nat),listed.size=ops.size→DC ops (pOf listed)→GoodF w0 S0 κ0 K N (stp ml x0 (pOf listed) ops.size) a w→i∈Region.ready .any ops listed→i < ops.size∧pOf listed i=false∧DC ops (pOf (listed.setIfInBounds i true))∧∀ Kc:Act→World→Prop,(∀ a' w',GoodF w0 S0 κ0 K N (stp ml x0 (pOf (listed.setIfInBounds i true)) ops.size) a' w'→Kc a' w')→wpOp P ops Q i Kc a w:=by
  intro listed a w i hs hdc hg hi; obtain ⟨hu,o,ho,hed⟩:=mem_ready.1 hi; have hin:i < ops.size:=(Array.getElem?_eq_some_iff.1 ho).1
  have hpi:pOf listed i=false:=by
   unfold pOf; have hil:i < listed.size:=by omega
   simp [hil] at hu ⊢; exact hu
  have hput:=pOf_put listed i (by omega)
  have hpre:∀ q∈preds ops i i,pOf listed q=true:=preds_in hdc i i (fun o' ho' e he hb=>by
   rw [ho] at ho'; injection ho' with ho'; subst ho'
   exact hed e he hb)
  have hdcp:∀ j,pOf listed j=true→∀ q∈preds ops j j,pOf listed q=true:=fun j hj=>preds_in hdc j j (fun o' ho' e he hb=>hdc j o' ho' hj e he hb)
  refine ⟨hin,hpi,?_,?_⟩
  · intro j o' ho' hj e he hb; rw [hput] at hj ⊢; by_cases hji:j=i
    · subst hji; rw [ho] at ho'; injection ho' with ho'; subst ho'; split
      · rfl
      · exact hed e he hb
    · rw [if_neg hji] at hj; split
      · rfl
      · exact hdc j o' ho' hj e he hb
  · intro Kc hK; have hlt:i < ml.length:=by omega
    have hmi:ml[i]?=some ml[i]:=List.getElem?_eq_getElem hlt; obtain ⟨h1,_,h2,h3⟩:=hml i ml[i] hmi; have hag:=stp_agree (x0:=x0) hmi hpi (fun m k hk=>(hml m k hk).2.1) hind hdcp hpre ops.size (by omega); rw [ho] at h1; injection h1 with h1
    have hst:aStepF P C M call N ops ml[i].o (stp ml x0 (pOf listed) ops.size)=some ml[i].res:=by rw [← h2]; refine (ztY ?_).symm; rw [← h3]; exact hag.symm
    refine zls hcall hN (by rw [ho,h1]) hst hg (fun a' w' hg'=>hK a' w' ?_); rw [← stp_put hmi hpi hput hind hdcp ops.size hin]; exact hg'
 intro fuel
 induction fuel with
 | zero =>
   intro listed a w hs hl hdc hg
   have hnil:Region.ready .any ops listed=[]:=by
    cases hr:Region.ready .any ops listed with
    | nil=>rfl
    | cons i r=>exfalso; obtain ⟨hin,hpi,_⟩:=step listed a w i hs hdc hg (by rw [hr]; exact List.mem_cons_self); have:=left_put hin hpi (pOf_put listed i (by omega)); omega
   exact ⟨hnil,done listed a w hs hg hnil⟩
 | succ fuel ih=>intro listed a w hs hl hdc hg; refine ⟨done listed a w hs hg,fun i hi=>?_⟩; obtain ⟨hin,hpi,hdc',hwp⟩:=step listed a w i hs hdc hg hi; refine hwp _ (fun a' w' hg'=>ih _ a' w' (by simpa using hs) ?_ hdc' hg'); have:=left_put hin hpi (pOf_put listed i (by omega)); omega
theorem GoodF.drew {x:FS} {a:Act} {w:World} (h:GoodF w0 S0 κ0 K N x a w) (n:Nat) (hn:w.drawn≤n):GoodF w0 S0 κ0 K N x a { w with drawn:=n }:=by
 obtain ⟨S,κ,h⟩:=h
 have hE:∀ {D:Nat→Prop} {kb:Option (Nat×Nat)} {ent:Ent},EntAt S κ D w kb ent→EntAt S κ D { w with drawn:=n } kb ent:=fun hE=>hE.mono (fun _ h=>h) (fun _ _=>rfl) (fun _ h=>h) (fun _ _=>rfl) (fun g c hk=>⟨rfl,by
  rw [hk] at hE
  exact hE.notS⟩)
 exact ⟨S,κ,{ h with
  output:=h.output.trans (.of rfl hn)
  ents:=fun b ent hb=>hE (h.ents b ent hb)
  slots:=fun k=>VRel.mono (w:=w) (w':={ w with drawn:=n }) (fun _ h=>h) (fun _ _=>rfl) (fun _ h=>h) (fun _ _=>rfl) (h.slots k) }⟩
theorem ztj (hcall:CallOK P call) (hN:N≤1000) {id:Nat} {draw:Bool} {st st':St} (h:ze4 P C M call N ops draw st=some st') {a:Act} {w:World} (hg:GoodF w0 S0 κ0 K N (fs st) a w)
  (hQ:∀ a w,GoodF w0 S0 κ0 K N (fs st') a w→Q .normal a w):(Code.region id ops draw).wp P Q a w:=by
 unfold ze4 at h; have hg1:=hg.preDel ops.toList st
 cases ho:runOps P C M call N ops 0 ops.toList (preDel ops.toList st) with
 | none=>simp only [ho] at h; cases h
 | some q =>
   obtain ⟨ml,st1⟩:=q; simp only [ho] at h; split at h
   case isFalse=>cases h
   rename_i hcond; injection h with h; subst h
   cases draw with
   | true =>
     have hok:((drawOk ops ml=true∧zhH 0 ops.toList=true)∧P.follows .mixedOrders=true):=by simpa using hcond
     obtain ⟨⟨hok1,hok2⟩,hok3⟩:=hok; obtain ⟨m1,m2,hfin⟩:=zqW ops.toList 0 (preDel ops.toList st) st1 ml ho; have hki:∀ (m:Nat) (k:Mk),ml[m]?=some k→k.i=m:=fun m k hk=>by have:=(m2 m k hk).1; omega
     refine wp_region_any hok3 (draw_sound (C:=C) (M:=M) (w0:=w0) (S0:=S0) (κ0:=κ0) (K:=K) hcall hN (ml:=ml) (x0:=fs (preDel ops.toList st)) (by simpa using m1) ?_ ?_ ?_ ?_ ops.size _ a _ (by simp) ?_ ?_ ?_)
     · intro m k hk; obtain ⟨_,q2,q5,q3,q4⟩:=m2 m k hk; exact ⟨by simpa using q2,q5,q3,q4⟩
     · intro i j x y hij hx hy; rcases zoZ ml hok1 i j x y hij hx hy with h | h
       · rw [hki i x hx,hki j y hy] at h; exact .inl h
       · exact .inr (Ind.of h)
     · intro j o hj e he hb; have:=znz ops.toList 0 hok2 j o (by simpa using hj) e he hb; omega
     · intro a' w' hg'; refine hQ a' w' ?_; rw [hfin]; simpa using hg'
     · unfold left_; exact Nat.le_trans (List.length_filter_le _ _) (by simp)
     · intro j o hj hp; rw [pOf_none] at hp; cases hp
     · have h0:∀ n,stp ml (fs (preDel ops.toList st)) (pOf (Array.replicate ops.size false)) n=fs (preDel ops.toList st):=by
        intro n
        induction n with
        | zero=>rfl
        | succ n ih=>simp only [stp]; rw [pOf_none,ih]; cases ml[n]? <;> simp
       rw [h0]; exact hg1.drew _ (Nat.le_succ _)
   | false=>refine wp_region ?_; have:=zsc hcall hN ops.toList 0 (preDel ops.toList st) st1 ml ho (fun j o hj=>by simpa using hj) a w hg1 hQ; rw [← List.range_eq_range'] at this; simpa using this
end
end Go.Ab
namespace Go.Ab
open Go.RowKit
variable [Dr]
section
variable {P:Program} {N:Nat} {w0:World} {S0:Nat→Prop} {κ0:Kap} {K:Nat→Prop} {S:Nat→Prop} {κ:Kap} {T:Nat→AV} {L:Nat→Option Ent} {a:Act} {w:World}
theorem Good.addNil (h:Good w0 S0 κ0 K N S κ T L a w) {s:Nat} (hs:s < 1000) (hL:L s=none) (z:Nat) (e:TypeId) (hz:0 < z):Good w0 S0 κ0 K N S (fun b=>if b=s then none else κ b) T (fun b=>if b=s then some { z:=z,e:=e,es:=[],box:=false } else L b) a w:=by
 have hne:∀ b,(L b).isSome=true→b≠s:=fun b hb e=>by subst e; rw [hL] at hb; cases hb
 have hD:∀ b,(L b).isSome=true→(if b=s then some ({ z:=z,e:=e,es:=[],box:=false }:Ent) else L b).isSome=true:=fun b hb=>by rw [if_neg (hne b hb)]; exact hb
 have hκ:∀ b,(L b).isSome=true→(fun b=>if b=s then none else κ b) b=κ b:=fun b hb=>if_neg (hne b hb)
 have hcase:∀ b,(if b=s then some ({ z:=z,e:=e,es:=[],box:=false }:Ent) else L b).isSome=true→b=s∨(b≠s∧(L b).isSome=true):=fun b hb=>by
  by_cases hbs:b=s
  · exact .inl hbs
  · rw [if_neg hbs] at hb; exact .inr ⟨hbs,hb⟩
 exact { h with
  par:=fun b hb=>by
   have:b≠s:=by omega
   simp only [if_neg this]; exact h.par b hb
  parK:=fun b hb hl=>by
   rcases hcase b hl with e | ⟨_,hl⟩
   · omega
   · exact h.parK b hb hl
  own:=fun b g c hb hl hk=>by
   rcases hcase b hl with e | ⟨hbs,hl⟩
   · subst e; simp at hk
   · simp only [if_neg hbs] at hk; exact h.own b g c hb hl hk
  inj:=fun b b' g c c' hl hl' hk hk'=>by
   rcases hcase b hl with e | ⟨hbs,hl⟩
   · subst e; simp at hk
   · rcases hcase b' hl' with e | ⟨hbs',hl'⟩
     · subst e; simp at hk'
     · simp only [if_neg hbs] at hk; simp only [if_neg hbs'] at hk'; exact h.inj b b' g c c' hl hl' hk hk'
  ents:=fun b ent hb=>by
   by_cases hbs:b=s
   · subst hbs; simp at hb; subst hb; refine EntAt.of (.inr hz) ⟨by simp,?_⟩; simp
   · rw [if_neg hbs] at hb; have hl:(L b).isSome=true:=by simp [hb]
     have hE:=h.ents b ent hb; simp only [if_neg hbs]; refine hE.mono (fun _ h=>h) (fun _ _=>rfl) hD hκ (fun g c hk=>⟨rfl,?_⟩); rw [hk] at hE; exact hE.notS
  slots:=fun k=>(h.slots k).mono (fun _ h=>h) (fun _ _=>rfl) hD hκ }
theorem Good.recell (h:Good w0 S0 κ0 K N S κ T L a w) {B j:Nat} {ent:Ent} {cs:List AV} {a0 a1:AV} (hB:L B=some ent) (hbx:ent.box=true) (hes:ent.es=[cs]) (hj:cs[j]?=some a0)
  (hv:∀ x,VRel S κ (fun b=>(L b).isSome=true) w a0 x→VRel S κ (fun b=>(L b).isSome=true) w a1 x):Good w0 S0 κ0 K N S κ T (fun b=>if b=B then some { ent with es:=[cs.set j a1] } else L b) a w:=by
 have hiff:(fun b=>(if b=B then some ({ ent with es:=[cs.set j a1] }:Ent) else L b).isSome=true)=(fun b=>(L b).isSome=true):=by
  funext b; by_cases hb:b=B
  · subst hb; simp [hB]
  · rw [if_neg hb]
 have hi:∀ b,(if b=B then some ({ ent with es:=[cs.set j a1] }:Ent) else L b).isSome=true→(L b).isSome=true:=fun b hb=>by exact (congrFun hiff b)▸hb
 exact { h with
  parK:=fun b hb hl=>h.parK b hb (hi b hl)
  own:=fun b g c hb hl hk=>h.own b g c hb (hi b hl) hk
  inj:=fun b b' g c c' hl hl' hk hk'=>h.inj b b' g c c' (hi b hl) (hi b' hl') hk hk'
  ents:=fun b en hb=>by
   rw [hiff]; by_cases hbB:b=B
   · subst hbB; simp at hb; subst hb; obtain ⟨h1,h2⟩:=(h.ents b ent hB).1 (.inl hbx); refine EntAt.of (.inl hbx) ⟨?_,?_⟩
     · intro cs' hcs'; simp at hcs'; subst hcs'; simpa using h1 cs (by simp [hes])
     · cases hk:κ b with
       | none=>rw [hk] at h2; have:=h2.2; rw [hbx] at this; cases this
       | some gc =>
         obtain ⟨g,c⟩:=gc; rw [hk] at h2; obtain ⟨cells,q1,q2,q3,q4,q5,q6⟩:=h2; refine ⟨cells,q1,q2,by simpa [hes] using q3,q4,q5,fun i k cs' av hi' hk'=>?_⟩
         cases i with
         | succ i=>simp at hi'
         | zero =>
           simp at hi'; subst hi'; by_cases hkj:k=j
           · subst hkj; obtain ⟨u,u1,u2,u3,u4⟩:=q6 0 k cs a0 (by simp [hes]) hj; have hlt:k < cs.length:=(List.getElem?_eq_some_iff.1 hj).1; simp [hlt] at hk'; subst hk'; exact ⟨u,u1,u2,fun hb'=>hv u (u3 hbx),fun hb'=>by rw [hbx] at hb'; cases hb'⟩
           · rw [List.getElem?_set_ne (fun e=>hkj e.symm)] at hk'; obtain ⟨u,u1,u2,u3,u4⟩:=q6 0 k cs av (by simp [hes]) hk'; exact ⟨u,u1,u2,u3,u4⟩
   · rw [if_neg hbB] at hb; exact h.ents b en hb
  slots:=fun k=>by rw [hiff]; exact h.slots k }
theorem zsf {κ':Kap} {D D':Nat→Prop} {b s:Nat} (hD:∀ c,D c→D' (if c=b then s else c)) (hκ:∀ c,D c→κ' (if c=b then s else c)=κ c):∀ (k:Nat) {a:AV} {x:Value},VRel S κ D w a x→VRel S κ' D' w (a.ren b s k) x:=by
 intro k
 induction k with
 | zero=>intro a x _; exact .bot x
 | succ k ih =>
   intro a x h
   have lists:∀ (cs:List AV) (vs:Array Value),vs.size=cs.length→(∀ (j:Nat) (c:AV) (x:Value),cs[j]?=some c→vs[j]?=some x→VRel S κ D w c x)→vs.size=(cs.map (AV.ren b s k)).length∧∀ (j:Nat) (c:AV) (x:Value),(cs.map (AV.ren b s k))[j]?=some c→vs[j]?=some x→VRel S κ' D' w c x:=by
    intro cs vs hl hr; refine ⟨by simpa using hl,fun j c x hj hx=>?_⟩; rw [List.getElem?_map] at hj
    cases hc:cs[j]? with
    | none=>simp [hc] at hj
    | some c'=>simp [hc] at hj; subst hj; exact ih (hr j c' x hc hx)
   cases a with
   | bot=>exact .bot x
   | v y=>rw [h.v_inv]; exact .c (.v _)
   | sl z es=>exact .c h.sl_inv
   | fp cs=>exact .c h.fp_inv
   | agg cs=>obtain ⟨vs,rfl,hl,h1,hr⟩:=h.agg_inv; obtain ⟨q1,q2⟩:=lists cs vs hl hr; exact .agg _ vs q1 h1 q2
   | tup cs=>obtain ⟨vs,rfl,hl,hr⟩:=h.tup_inv; obtain ⟨q1,q2⟩:=lists cs vs hl hr; exact .tup _ vs q1 q2
   | fn f cs=>obtain ⟨vs,rfl,hl,hr⟩:=h.fn_inv; obtain ⟨q1,q2⟩:=lists cs vs hl hr; exact .fn f _ vs q1 q2
   | loc c z i o=>obtain ⟨g,cp,hd,hk,rfl⟩:=h.loc_inv; exact .loc _ z i o g cp (hD c hd) ((hκ c hd).trans hk)
   | row c z o n =>
     cases h with
     | c h=>cases h
     | row0 _ _ hd hk=>exact .row0 _ z (hD c hd) ((hκ c hd).trans hk)
     | row _ _ _ _ g cp off' cap hd hk hn ho hc=>exact .row _ z o n g cp off' cap (hD c hd) ((hκ c hd).trans hk) hn ho hc
   | map c=>obtain ⟨g,cp,hd,hk,rfl⟩:=h.map_inv; exact .map _ g cp (hD c hd) ((hκ c hd).trans hk)
   | mp es=>exact .c h.mp_inv
   | fa z es=>exact .c h.fa_inv
   | new=>exact .bot x
   | newp=>exact .bot x
   | newm=>exact .bot x
theorem zp6 (b s:Nat):∀ (t:Tab) (k:Nat),get (renT b s t) k=(get t k).ren b s 4
 | [],k=>rfl
 | (j,a) :: r,k=>by
   simp only [renT,get]; split
   · rfl
   · exact zp6 b s r k
def renL (b s:Nat) (L:Nat→Option Ent):Nat→Option Ent:=fun c=>if c=s then (L b).map (renE b s) else if c=b then none else (L c).map (renE b s)
theorem znK {b s:Nat} (hbs:b≠s):∀ (m:Mem) (c:Nat),look m s=none→look (renM b s m) c=renL b s (look m) c
 | [],c,_=>by simp [renM,look,renL]
 | (j,e) :: r,c,h=>by
   simp only [look] at h; split at h
   · cases h
   · rename_i hsj; have ih:=znK hbs r c h; simp only [renM,look]; by_cases hjb:j=b
     · subst hjb; rw [if_pos rfl]; by_cases hcs:c=s
       · subst hcs; simp [renL]
       · rw [if_neg hcs,ih]; unfold renL; rw [if_neg hcs,if_neg hcs]; by_cases hcj:c=j
         · rw [if_pos hcj,if_pos hcj]
         · rw [if_neg hcj,if_neg hcj]; simp only [if_neg hcj]
     · rw [if_neg hjb]; by_cases hcj:c=j
       · subst hcj; rw [if_pos rfl]; have hcs:c≠s:=fun e=>hsj e.symm
         unfold renL; rw [if_neg hcs,if_neg hjb]; simp
       · rw [if_neg hcj,ih]; unfold renL; by_cases hcs:c=s
         · rw [if_pos hcs,if_pos hcs]; simp only [if_neg (fun e=>hjb e.symm:¬ b=j)]
         · rw [if_neg hcs,if_neg hcs]; simp only [if_neg hcj]
theorem Good.ren (h:Good w0 S0 κ0 K N S κ T L a w) {b s:Nat} (hb:b < 1000) (hs:s < 1000) (hbs:b≠s) (hL:L s=none):Good w0 S0 κ0 K N S (fun c=>if c=s then κ b else κ c) (fun k=>(T k).ren b s 4) (renL b s L) a w:=by
 have hne:∀ c,(L c).isSome=true→c≠s:=fun c hc e=>by subst e; rw [hL] at hc; cases hc
 have hD:∀ c,(L c).isSome=true→(renL b s L (if c=b then s else c)).isSome=true:=fun c hc=>by
  unfold renL; by_cases hcb:c=b
  · subst hcb; simp [hc]
  · simp [hcb,hne c hc,hc]
 have hκ:∀ c,(L c).isSome=true→(fun c=>if c=s then κ b else κ c) (if c=b then s else c)=κ c:=fun c hc=>by
  by_cases hcb:c=b
  · subst hcb; simp
  · simp [hcb,hne c hc]
 have hcase:∀ c,(renL b s L c).isSome=true→(c=s∧(L b).isSome=true)∨(c≠s∧c≠b∧(L c).isSome=true):=fun c hc=>by
  unfold renL at hc; by_cases hcs:c=s
  · rw [if_pos hcs] at hc; exact .inl ⟨hcs,by simpa using hc⟩
  · rw [if_neg hcs] at hc; by_cases hcb:c=b
    · rw [if_pos hcb] at hc; cases hc
    · rw [if_neg hcb] at hc; exact .inr ⟨hcs,hcb,by simpa using hc⟩
 have hE:∀ c ent,L c=some ent→EntAt S (fun c=>if c=s then κ b else κ c) (fun c=>(renL b s L c).isSome=true) w (κ c) (renE b s ent):=fun c ent hc=>by
  have hE:=h.ents c ent hc; unfold renE
  cases hbx:ent.box with
  | false=>simp only [Bool.false_eq_true,if_false]; exact hE.handed (fun _ h=>h) (fun g cp hk=>by rw [hk] at hE; exact hE.notS) (fun hb'=>by rw [hbx] at hb'; cases hb')
  | true =>
    simp only [if_true]; obtain ⟨h1,h2⟩:=hE.1 (.inl hbx); refine EntAt.of (.inl rfl) ⟨?_,?_⟩
    · intro cs hcs; simp only [List.mem_map] at hcs; obtain ⟨cs',hm,rfl⟩:=hcs; simpa using h1 cs' hm
    · cases hk:κ c with
      | none=>rw [hk] at h2; have:=h2.2; rw [hbx] at this; cases this
      | some gc =>
        obtain ⟨g,cp⟩:=gc; rw [hk] at h2; obtain ⟨cells,q1,q2,q3,q4,q5,q6⟩:=h2; refine ⟨cells,q1,q2,by simpa using q3,q4,q5,fun i j cs av hi hj=>?_⟩; simp only [List.getElem?_map] at hi
        cases hi0:ent.es[i]? with
        | none=>simp [hi0] at hi
        | some cs0 =>
          simp only [hi0,Option.map_some,Option.some.injEq] at hi; subst hi; simp only [List.getElem?_map] at hj
          cases hj0:cs0[j]? with
          | none=>simp [hj0] at hj
          | some a0=>simp only [hj0,Option.map_some,Option.some.injEq] at hj; subst hj; obtain ⟨u,u1,u2,u3,_⟩:=q6 i j cs0 a0 hi0 hj0; exact ⟨u,u1,u2,fun _=>zsf hD hκ 4 (u3 hbx),fun hb'=>by simp at hb'⟩
 exact { h with
  par:=fun c hc=>by
   have:c≠s:=by omega
   simp only [if_neg this]; exact h.par c hc
  parK:=fun c hc hl=>by
   rcases hcase c hl with ⟨e,_⟩ | ⟨_,_,hl⟩
   · omega
   · exact h.parK c hc hl
  own:=fun c g cp hc hl hk=>by
   rcases hcase c hl with ⟨e,hl⟩ | ⟨hcs,_,hl⟩
   · simp only [if_pos e] at hk; exact h.own b g cp hb hl hk
   · simp only [if_neg hcs] at hk; exact h.own c g cp hc hl hk
  inj:=fun c c' g cp cp' hl hl' hk hk'=>by
   rcases hcase c hl with ⟨e,hl⟩ | ⟨hcs,hcb,hl⟩
   · rcases hcase c' hl' with ⟨e',_⟩ | ⟨hcs',hcb',hl'⟩
     · rw [e,e']
     · simp only [if_pos e] at hk; simp only [if_neg hcs'] at hk'; exact absurd (h.inj b c' g cp cp' hl hl' hk hk').symm hcb'
   · simp only [if_neg hcs] at hk; rcases hcase c' hl' with ⟨e',hl'⟩ | ⟨hcs',hcb',hl'⟩
     · simp only [if_pos e'] at hk'; exact absurd (h.inj c b g cp cp' hl hl' hk hk') hcb
     · simp only [if_neg hcs'] at hk'; exact h.inj c c' g cp cp' hl hl' hk hk'
  ents:=fun c en hc=>by
   unfold renL at hc; by_cases hcs:c=s
   · rw [if_pos hcs] at hc
     cases hb0:L b with
     | none=>simp [hb0] at hc
     | some ent=>simp only [hb0,Option.map_some,Option.some.injEq] at hc; subst hc; simp only [if_pos hcs]; exact hE b ent hb0
   · rw [if_neg hcs] at hc; by_cases hcb:c=b
     · rw [if_pos hcb] at hc; cases hc
     · rw [if_neg hcb] at hc
       cases hc0:L c with
       | none=>simp [hc0] at hc
       | some ent=>simp only [hc0,Option.map_some,Option.some.injEq] at hc; subst hc; simp only [if_neg hcs]; exact hE c ent hc0
  slots:=fun k=>zsf hD hκ 4 (h.slots k) }
theorem zpU (s:Nat) (st:St):look (del s st).m s=none:=by show look (delM s st.m) s=none; rw [zdn]; simp [killL]
theorem zqb {s:Nat} {st:St} (hs:s < 1000) (h:GoodF w0 S0 κ0 K N (fs st) a w) (b:Nat):GoodF w0 S0 κ0 K N (fs (if b=s then st else if b < 1000 then renS b s (del s st) else st)) a w:=by
 split
 · exact h
 · rename_i hbs; split
   case isFalse=>exact h
   rename_i hb; obtain ⟨S,κ,h1⟩:=h.del s; have:=h1.ren hb hs hbs (zpU s st); have e1:(fs (renS b s (del s st))).1=fun k=>((fs (del s st)).1 k).ren b s 4:=funext fun k=>zp6 b s _ k
   have e2:(fs (renS b s (del s st))).2=renL b s (fs (del s st)).2:=funext fun c=>znK hbs _ c (zpU s st)
   rw [← e1,← e2] at this; exact ⟨S,_,this⟩
theorem cell1_good {B j s z:Nat} {e:TypeId} {st:St} (h:GoodF w0 S0 κ0 K N (fs st) a w):GoodF w0 S0 κ0 K N (fs (cell1 B j s z e st)) a w:=by
 unfold cell1; split
 case isFalse =>
  split
  case isFalse=>exact h
  split
  case h_2=>exact h
  rename_i ent hB; split
  case h_2=>exact h
  rename_i cs hbx hes; split
  case h_2=>exact h
  rename_i hj; obtain ⟨S,κ,h1⟩:=h
  have h2:=h1.recell (B:=B) (j:=j) (ent:=ent) (cs:=cs) (a0:=.v (.slice none 0 0)) (a1:=.sl z []) hB hbx hes hj (fun x hx=>by
   have hx':=VRel.v_inv hx; subst hx'
   exact .c (CRel.nil_sl z))
  have e2:(fs ({ t:=st.t,m:=repM (B,{ ent with es:=[cs.set j (.sl z [])] }) st.m }:St)).2=(fun b=>if b=B then some { ent with es:=[cs.set j (.sl z [])] } else (fs st).2 b):=funext fun c=>by show look (repM _ _) c=_; rw [ziZ _ _ _ (by simp [hB])]; rfl
  rw [← e2] at h2; exact ⟨S,κ,h2⟩
 rename_i hc; obtain ⟨hs,hBs,hzp⟩:=hc; split
 case h_2=>exact h
 split
 case h_2=>exact h
 split
 · exact zqb hs h _
 · exact zqb hs h _
 · simp only; split
   case h_2=>exact h
   rename_i ent' hB'; split
   case h_2=>exact h
   rename_i cs' hbx hes; split
   case h_2=>exact h
   rename_i hj; obtain ⟨S,κ,h1⟩:=h.del s; have h2:=h1.addNil hs (zpU s st) z e hzp
   have h3:=h2.recell (B:=B) (j:=j) (ent:=ent') (cs:=cs') (a0:=.v (.slice none 0 0)) (a1:=.row s z 0 0) (by rw [if_neg hBs]; exact hB') hbx hes hj (fun x hx=>by
    have hx':=VRel.v_inv hx; subst hx'
    exact .row0 s z (by simp) (by simp))
   have e2:(fs ({ t:=(del s st).t,m:=(s,{ z:=z,e:=e,es:=[],box:=false }) :: repM (B,{ ent' with es:=[cs'.set j (.row s z 0 0)] }) (del s st).m }:St)).2 =
     (fun b=>if b=B then some { ent' with es:=[cs'.set j (.row s z 0 0)] } else if b=s then some { z:=z,e:=e,es:=[],box:=false } else (fs (del s st)).2 b):=funext fun c=>by
    show look ((s,_) :: repM _ _) c=_; simp only [look]; rw [ziZ _ _ _ (by simp [hB'])]; by_cases hcs:c=s
    · have:c≠B:=fun e=>hBs (e.symm.trans hcs)
      rw [if_pos hcs,if_neg this,if_pos hcs]
    · rw [if_neg hcs]; simp only [if_neg hcs]; rfl
   rw [← e2] at h3; exact ⟨S,_,h3⟩
 · exact h
theorem znu {a:Act} {w:World}:∀ (l:List (Nat×Nat×Nat×Nat×TypeId)) (st:St),GoodF w0 S0 κ0 K N (fs st) a w→GoodF w0 S0 κ0 K N (fs (zit l st)) a w
 | [],_,h=>h
 | _ :: l,_,h=>znu l _ (cell1_good h)
end
end Go.Ab
namespace Go.Ab
open Go.RowKit
variable [Dr]
section
variable {P:Program} {C:Cfg} {N:Nat} {w0:World} {S0:Nat→Prop} {κ0:Kap} {K:Nat→Prop}
theorem GoodF.forget {x y:FS} {a:Act} {w:World} (h:GoodF w0 S0 κ0 K N x a w) (h1:∀ k,y.1 k=x.1 k∨y.1 k=.bot) (h2:y.2=x.2):GoodF w0 S0 κ0 K N y a w:=by
 obtain ⟨S,κ,h⟩:=h; obtain ⟨y1,y2⟩:=y; simp only at h1 h2; subst h2; refine ⟨S,κ,{ h with slots:=fun k=>?_ }⟩; rcases h1 k with e | e
 · simp only; rw [e]; exact h.slots k
 · simp only; rw [e]; exact .bot _
theorem zmF:∀ (l:List Nat) (t:Tab) (k:Nat),get (zew l t) k=get t k∨get (zew l t) k=.bot
 | [],t,k=>.inr rfl
 | j :: l,t,k=>by
   have ih:=zmF l t k; simp only [zew]; split
   · exact ih
   · rename_i hne; simp only [get]; split
     · rename_i hk; subst hk; exact .inl rfl
     · exact ih
theorem own1_good {s z:Nat} {e:TypeId} {st:St} {a:Act} {w:World} (h:GoodF w0 S0 κ0 K N (fs st) a w):GoodF w0 S0 κ0 K N (fs (own1 s z e st)) a w:=by
 unfold own1; split
 case isFalse=>exact h
 rename_i hs; obtain ⟨hs,hzp⟩:=hs; split
 · rename_i hv
   have hval:a.tmps.getD s undef=.slice none 0 0:=by obtain ⟨S,κ,h'⟩:=h; have:=h'.slots s; simp only [fs] at this; rw [hv] at this; exact this.v_inv
   obtain ⟨S,κ,h1⟩:=h.del s
   have hns:((fs (del s st)).2 s).isSome=false:=by show (look (delM s st.m) s).isSome=false; rw [zdn]; simp [killL]
   generalize hst:del s st=st1 at h1 hns
   let κ':Kap:=fun b=>if b=s then none else κ b
   have hne:∀ b,((fs st1).2 b).isSome=true→b≠s:=fun b hb e=>by subst e; rw [hns] at hb; cases hb
   have hD:∀ b,((fs st1).2 b).isSome=true→(look ((s,{ z:=z,e:=e,es:=[],box:=false }) :: st1.m) b).isSome=true:=fun b hb=>by simp only [look]; rw [if_neg (hne b hb)]; exact hb
   have hκ:∀ b,((fs st1).2 b).isSome=true→κ' b=κ b:=fun b hb=>if_neg (hne b hb)
   have hcase:∀ b,(look ((s,{ z:=z,e:=e,es:=[],box:=false }) :: st1.m) b).isSome=true→b=s∨(b≠s∧((fs st1).2 b).isSome=true):=fun b hb=>by
    by_cases hbs:b=s
    · exact .inl hbs
    · simp only [look] at hb; rw [if_neg hbs] at hb; exact .inr ⟨hbs,hb⟩
   refine ⟨S,κ',{ h1 with
    par:=fun b hb=>by have:b≠s:=by omega
                      simp only [κ']; rw [if_neg this]; exact h1.par b hb
    parK:=fun b hb hl=>by
     rcases hcase b hl with e | ⟨_,hl⟩
     · omega
     · exact h1.parK b hb hl
    own:=fun b g c hb hl hk=>by
     rcases hcase b hl with e | ⟨hbs,hl⟩
     · subst e; simp [κ'] at hk
     · rw [hκ b hl] at hk; exact h1.own b g c hb hl hk
    inj:=fun b b' g c c' hl hl' hk hk'=>by
     rcases hcase b hl with e | ⟨hbs,hl⟩
     · subst e; simp [κ'] at hk
     · rcases hcase b' hl' with e | ⟨hbs',hl'⟩
       · subst e; simp [κ'] at hk'
       · rw [hκ b hl] at hk; rw [hκ b' hl'] at hk'; exact h1.inj b b' g c c' hl hl' hk hk'
    ents:=fun b ent hb=>by
     simp only [fs,look] at hb; by_cases hbs:b=s
     · subst hbs; simp at hb; subst hb; refine EntAt.of (.inr hzp) ⟨by simp,?_⟩; simp [κ']
     · rw [if_neg hbs] at hb; have hl:((fs st1).2 b).isSome=true:=by simp [fs,hb]
       have hE:=h1.ents b ent hb; rw [hκ b hl]; refine hE.mono (fun _ h=>h) (fun _ _=>rfl) hD hκ (fun g c hk=>⟨rfl,?_⟩); rw [hk] at hE; exact hE.notS
    slots:=fun k=>by
     simp only [fs,get]; by_cases hks:k=s
     · subst hks; rw [if_pos rfl,hval]; exact .row0 k z (by simp [look]) (by simp [κ'])
     · rw [if_neg hks]
       exact (h1.slots k).mono (fun _ h=>h) (fun _ _=>rfl) hD hκ }⟩
 · rename_i b z' off n hv; split
   · exact h
   · rename_i hbs; split
     · rename_i ent hent; split
       case isFalse=>exact h
       rename_i hc; obtain ⟨hb1,rfl,hn,hbx,hz⟩:=hc; obtain ⟨S,κ,h0⟩:=h; have hslot:=h0.slots s; have hE0:=h0.ents b ent hent; have hLb:((fs st).2 b).isSome=true:=by simp [fs,hent]
       simp only [fs] at hslot; rw [hv] at hslot; have h1:=(h0.del s).del b
       have e1:(fs (del b (del s st))).1=fun k=>(((fs st).1 k).kill s 4).kill b 4:=funext fun k=>by show get (killT b (killT s st.t)) k=_; rw [zgk,zgk]; rfl
       have e2:(fs (del b (del s st))).2=killL b (killL s (fs st).2):=funext fun c=>by
        show look (delM b (delM s st.m)) c=_; rw [zdn]; have:look (delM s st.m)=killL s (fs st).2:=funext fun c=>zdn s st.m c
        rw [this]
       rw [← e1,← e2] at h1
       have hgone:∀ c,((fs (del b (del s st))).2 c).isSome=true→c≠s∧c≠b∧((fs st).2 c).isSome=true:=by
        intro c hc; rw [e2] at hc; simp only [killL] at hc; split at hc
        · cases hc
        · rename_i h1; simp only [Option.isSome_map] at hc; split at hc
          · cases hc
          · rename_i h2; exact ⟨h2,h1,by simpa using hc⟩
       generalize hst:del b (del s st)=st1 at h1 hgone
       let κ':Kap:=fun c=>if c=s then κ b else κ c
       have hne:∀ c,((fs st1).2 c).isSome=true→c≠s:=fun c hc=>(hgone c hc).1
       have hD:∀ c,((fs st1).2 c).isSome=true→(look ((s,ent) :: st1.m) c).isSome=true:=fun c hc=>by simp only [look]; rw [if_neg (hne c hc)]; exact hc
       have hκ:∀ c,((fs st1).2 c).isSome=true→κ' c=κ c:=fun c hc=>if_neg (hne c hc)
       have hcase:∀ c,(look ((s,ent) :: st1.m) c).isSome=true→c=s∨(c≠s∧((fs st1).2 c).isSome=true):=fun c hc=>by
        by_cases hcs:c=s
        · exact .inl hcs
        · simp only [look] at hc; rw [if_neg hcs] at hc; exact .inr ⟨hcs,hc⟩
       have hapart:∀ c g cp cp',((fs st1).2 c).isSome=true→κ b=some (g,cp)→κ c≠some (g,cp'):=fun c g cp cp' hc hk hk'=>by obtain ⟨_,h2,h3⟩:=hgone c hc; exact h2 (h0.inj c b g cp' cp h3 hLb hk' hk)
       refine ⟨S,κ',{ h1 with
        par:=fun c hc=>by have:c≠s:=by omega
                          simp only [κ']; rw [if_neg this]; exact h1.par c hc
        parK:=fun c hc hl=>by
         rcases hcase c hl with e | ⟨_,hl⟩
         · omega
         · exact h1.parK c hc hl
        own:=fun c g cp hc hl hk=>by
         rcases hcase c hl with e | ⟨hcs,hl⟩
         · subst e; simp [κ'] at hk; exact h0.own b g cp hb1 hLb hk
         · rw [hκ c hl] at hk; exact h1.own c g cp hc hl hk
        inj:=fun c c' g cp cp' hl hl' hk hk'=>by
         rcases hcase c hl with e | ⟨hcs,hl1⟩
         · subst e; simp [κ'] at hk; rcases hcase c' hl' with e | ⟨hcs',hl'⟩
           · exact e.symm
           · rw [hκ c' hl'] at hk'; exact absurd hk' (hapart c' g cp cp' hl' hk)
         · rw [hκ c hl1] at hk; rcases hcase c' hl' with e | ⟨hcs',hl2⟩
           · subst e; simp [κ'] at hk'; exact absurd hk (hapart c g cp' cp hl1 hk')
           · rw [hκ c' hl2] at hk'; exact h1.inj c c' g cp cp' hl1 hl2 hk hk'
        ents:=fun c en hc=>by
         simp only [fs,look] at hc; by_cases hcs:c=s
         · subst hcs; simp at hc; subst hc; have hkb:κ' c=κ b:=by simp [κ']
           rw [hkb]; exact hE0.handed (fun _ h=>h) (fun g cp hk=>by rw [hk] at hE0; exact hE0.notS) (fun hb'=>by rw [hbx] at hb'; cases hb')
         · rw [if_neg hcs] at hc; have hl:((fs st1).2 c).isSome=true:=by simp [fs,hc]
           have hE:=h1.ents c en hc; rw [hκ c hl]; refine hE.mono (fun _ h=>h) (fun _ _=>rfl) hD hκ (fun g cp hk=>⟨rfl,?_⟩); rw [hk] at hE; exact hE.notS
        slots:=fun k=>by
         simp only [fs,get]; by_cases hks:k=s
         · subst hks; rw [if_pos rfl]; generalize a.tmps.getD k undef=q at hslot
           cases hslot with
           | c h=>cases h
           | row0 _ _ hd hk=>exact .row0 k _ (by simp [look]) (by simp [κ',hk])
           | row _ _ _ _ g cp off' cap hd hk hnc ho hcc=>exact .row k _ 0 _ g cp off' cap (by simp [look]) (by simp [κ',hk]) hnc ho hcc
         · rw [if_neg hks]
           exact (h1.slots k).mono (fun _ h=>h) (fun _ _=>rfl) hD hκ }⟩
     · exact h
 · exact zqb hs h _
 · exact h
theorem zpb {a:Act} {w:World}:∀ (l:List (Nat×Nat×TypeId)) (st:St),GoodF w0 S0 κ0 K N (fs st) a w→GoodF w0 S0 κ0 K N (fs (ownAll l st)) a w
 | [],_,h=>h
 | _ :: l,_,h=>zpb l _ (own1_good h)
theorem zoY {a:Act} {w:World}:∀ (l:List Nat) (st:St),GoodF w0 S0 κ0 K N (fs st) a w→GoodF w0 S0 κ0 K N (fs (delAll l st)) a w
 | [],_,h=>h
 | b :: l,_,h=>zoY l _ (h.del b)
theorem zrT (p:Nat×Ent):∀ (m:Mem) (b:Nat),look (insM p m) b=if b=p.1 then some p.2 else look m b
 | [],b=>by obtain ⟨j,e⟩:=p; simp only [insM,look]
 | (j,e) :: r,b=>by
   simp only [insM]; split
   · obtain ⟨i,e'⟩:=p; simp only [look]
   · rename_i hle; simp only [look,zrT p r b]; by_cases h1:b=j
     · have:b≠p.1:=fun e=>hle (by show p.1≤j; omega)
       rw [if_pos h1,if_neg this,if_pos h1]
     · rw [if_neg h1,if_neg h1]
theorem zjT:∀ (m:Mem) (b:Nat),look (sortM m) b=look m b
 | [],_=>rfl
 | (j,e) :: r,b=>by simp only [sortM,zrT,look,zjT r b]
theorem GoodF.sorted {st:St} {a:Act} {w:World} (h:GoodF w0 S0 κ0 K N (fs st) a w):GoodF w0 S0 κ0 K N (fs { st with m:=sortM st.m }) a w:=by
 have:fs { st with m:=sortM st.m }=fs st:=by unfold fs; simp only; congr 1; funext b; exact zjT st.m b
 rw [this]; exact h
theorem zlL {bs:List Nat} {st:St} {a:Act} {w:World} (h:GoodF w0 S0 κ0 K N (fs st) a w) (hN:N≤1000) (hb:∀ b∈bs,b < 1000∧(look st.m b).isSome=true):GoodF w0 S0 κ0 K N (fs (zbm bs st)) a w:=by
 obtain ⟨S,κ,hg⟩:=h
 let o:Oper:={ dst:=none,op:=.move (.const undef),type:=0,pos := "",after:=#[],guard:=none }
 let r:Res:={ val:=.v undef,frz:=bs }
 let S1:Nat→Prop:=fun g=>S g∨∃ b c,b∈bs∧(look st.m b).isSome=true∧κ b=some (g,c)
 have he:EffAt S κ (fun b=>(look st.m b).isSome=true) w S1 κ r undef w:={
  os:=rfl
  tape:=rfl
  output:=.of
  size:=Nat.le_refl _
  blk:=fun _ _ _=>rfl
  sup:=fun _ h=>.inl h
  snew:=fun g hs=>by
   rcases hs with h1 | ⟨b,c,h1,h2,h3⟩
   · exact .inl h1
   · exact .inr (.inr ⟨b,c,.inl h1,h2,h3⟩)
  slt:=fun g hs=>by
   rcases hs with h1 | ⟨b,c,h1,h2,h3⟩
   · exact hg.slt g h1
   · obtain ⟨ent,he⟩:=Option.isSome_iff_exists.1 h2; have:=hg.ents b ent he; rw [h3] at this; exact this.lt
  sfrz:=fun b hm g c hk=>.inr ⟨b,c,hm,(hb b hm).2,hk⟩
  kold:=fun _ _ _=>rfl
  kout:=fun _ _=>rfl
  knew:=fun b _ hm=>by simp [ids,r] at hm
  one:=fun b b' _ _ hm=>by simp [ids,r] at hm
  res:=fun b hb=>by cases hb
  ents:=fun b ent hm=>by simp [r] at hm
  val:=.c (.v _) }
 have hd:Dis (fun b=>(look st.m b).isSome=true) r:=fun b hm=>⟨(hb b hm).2,by simp [ids,r],by simp [r]⟩
 have hs:Shape o (look st.m) r:=⟨fun b h=>by simp [r] at h,fun b h=>by simp [ids,r] at h,fun b h=>(hb b h).1,fun b h=>by simp [r] at h⟩
 have h2:=hg.apply (o:=o) hN rfl he hd hs; refine ⟨S1,κ,?_⟩
 have e1:applyT none r (get st.t) (look st.m)=get (zbm bs st).t:=by
  funext k
  cases bs with
  | nil=>rfl
  | cons c cs=>simp only [applyT,zbm,zll]; rfl
 have e2:applyL r (look st.m)=look (zbm bs st).m:=by
  funext k
  cases bs with
  | nil=>rfl
  | cons c cs=>simp only [applyL,zbm,zkw]; rfl
 simp only [fs]; rw [← e1,← e2]; exact h2
theorem znE {l:List Nat} {st:St} {a:Act} {w:World} (h:GoodF w0 S0 κ0 K N (fs st) a w) (hN:N≤1000):GoodF w0 S0 κ0 K N (fs (zfK l st)) a w:=by
 unfold zfK; split
 · exact h
 · split
   · rename_i hc; refine zlL h hN (fun b hb=>?_); have:=List.all_eq_true.1 hc b hb; simpa using this
   · exact h
theorem tidy_good {A:Ann} {id:Nat} {st:St} {a:Act} {w:World} (h:GoodF w0 S0 κ0 K N (fs st) a w) (hN:N≤1000):GoodF w0 S0 κ0 K N (fs (tidy A id st)) a w:=by
 have h1:=znu (A.cel id) _ (zpb (A.own id) _ (znE (l:=A.fz id) h hN)); unfold tidy; simp only; split
 · rename_i l _; exact GoodF.sorted (zoY _ _ (GoodF.forget (y:=fs { zit (A.cel id) (ownAll (A.own id) (zfK (A.fz id) st)) with t:=zew l (zit (A.cel id) (ownAll (A.own id) (zfK (A.fz id) st))).t }) h1 (fun k=>zmF _ _ k) rfl))
 · exact h1
def Ex.toExit:Ex→Exit
 | .normal=>.normal
 | .exit id=>.exit id
 | .ret=>.ret
def PostC (w0:World) (S0:Nat→Prop) (κ0:Kap) (K:Nat→Prop) (N:Nat) (ex:Ex) (st:St) (e:Exit) (a:Act) (w:World):Prop:=e=ex.toExit∧GoodF w0 S0 κ0 K N (fs st) a w
theorem zqS {c:Code} {step:St→Option (Ex×St)} (hstep:∀ st ex st',step st=some (ex,st')→∀ a w,GoodF w0 S0 κ0 K N (fs st) a w→c.wp P (PostC w0 S0 κ0 K N ex st') a w):∀ (n:Nat) (st:St) (ex:Ex) (st':St),iter n step st=some (ex,st')→∀ a w,GoodF w0 S0 κ0 K N (fs st) a w→Code.rounds P c (PostC w0 S0 κ0 K N ex st') n a w
 | 0,st,ex,st',h,_,_,_=>by simp [iter] at h
 | n+1,st,ex,st',h,a,w,hg=>by
   rw [rounds_succ]; simp only [iter] at h
   cases hs:step st with
   | none=>simp [hs] at h
   | some q =>
     obtain ⟨e1,st1⟩:=q; rw [hs] at h; have hw:=hstep st e1 st1 hs a w hg
     cases e1 with
     | normal =>
       simp only at h; refine wp_mono hw ?_
       rintro e a' w' ⟨rfl,hg'⟩
       exact zqS hstep n st1 ex st' h a' w' hg'
     | exit id =>
       simp only [Option.some.injEq,Prod.mk.injEq] at h; obtain ⟨rfl,rfl⟩:=h; refine wp_mono hw ?_
       rintro e a' w' ⟨rfl,hg'⟩
       exact ⟨rfl,hg'⟩
     | ret =>
       simp only [Option.some.injEq,Prod.mk.injEq] at h; obtain ⟨rfl,rfl⟩:=h; refine wp_mono hw ?_
       rintro e a' w' ⟨rfl,hg'⟩
       exact ⟨rfl,hg'⟩
theorem zoW {A:Ann} {call:zaX} {n:Nat} (hcall:CallOK P call) (hN:N≤1000):∀ (c:Code) (st:St) (ex:Ex) (st':St),aeval P C A N call (iter n) c st=some (ex,st')→∀ a w,GoodF w0 S0 κ0 K N (fs st) a w→c.wp P (PostC w0 S0 κ0 K N ex st') a w:=by
 intro c
 induction c with
 | skip=>intro st ex st' h a w hg; simp [aeval] at h; obtain ⟨rfl,rfl⟩:=h; exact wp_skip ⟨rfl,hg⟩
 | region id ops draw =>
   intro st ex st' h a w hg; simp only [aeval] at h; split at h
   · rename_i st1 h1; simp only [Option.some.injEq,Prod.mk.injEq] at h; obtain ⟨rfl,rfl⟩:=h; exact ztj hcall hN h1 (znE hg hN) (fun a' w' hg'=>⟨rfl,tidy_good hg' hN⟩)
   · cases h
 | seq x y ihx ihy =>
   intro st ex st' h a w hg; simp only [aeval] at h; refine wp_seq ?_
   cases hx:aeval P C A N call (iter n) x st with
   | none=>simp [hx] at h
   | some q =>
     obtain ⟨e1,st1⟩:=q; rw [hx] at h; have hw:=ihx st e1 st1 hx a w hg
     cases e1 with
     | normal =>
       simp only at h; refine wp_mono hw ?_
       rintro e a' w' ⟨rfl,hg'⟩
       exact ihy st1 ex st' h a' w' hg'
     | exit id =>
       simp only [Option.some.injEq,Prod.mk.injEq] at h; obtain ⟨rfl,rfl⟩:=h; refine wp_mono hw ?_
       rintro e a' w' ⟨rfl,hg'⟩
       exact ⟨rfl,hg'⟩
     | ret =>
       simp only [Option.some.injEq,Prod.mk.injEq] at h; obtain ⟨rfl,rfl⟩:=h; refine wp_mono hw ?_
       rintro e a' w' ⟨rfl,hg'⟩
       exact ⟨rfl,hg'⟩
 | cond c x y ihx ihy =>
   intro st ex st' h a w hg; simp only [aeval] at h; split at h
   case h_2=>cases h
   rename_i b hb
   have hev:a.eval c=.bool b:=by
    obtain ⟨S,κ,hg'⟩:=hg
    cases c with
    | tmp k=>have:=hg'.slots k; simp only [fs] at this; simp only [ev] at hb; rw [hb] at this; exact this.v_inv
    | const v=>simp only [ev] at hb; cases hb; rfl
    | func f=>simp [ev] at hb
    | global g=>simp [ev] at hb
   refine wp_cond hev ?_
   cases b with
   | true=>simp only [if_true] at h ⊢; exact ihx st ex st' h a w hg
   | false=>simp only [Bool.false_eq_true,if_false] at h ⊢; exact ihy st ex st' h a w hg
 | block id c ih =>
   intro st ex st' h a w hg; simp only [aeval] at h; refine wp_block ?_
   cases hx:aeval P C A N call (iter n) c st with
   | none=>simp [hx] at h
   | some q =>
     obtain ⟨e1,st1⟩:=q; rw [hx] at h; have hw:=ih st e1 st1 hx a w hg; refine wp_mono hw ?_
     rintro e a' w' ⟨rfl,hg'⟩
     cases e1 with
     | normal=>simp only [Option.some.injEq,Prod.mk.injEq] at h; obtain ⟨rfl,rfl⟩:=h; exact ⟨rfl,hg'⟩
     | exit j =>
       simp only at h; show Exit.inBlock id _ (.exit j) a' w'; simp only [Exit.inBlock]; split at h
       · rename_i hj; simp only [Option.some.injEq,Prod.mk.injEq] at h; obtain ⟨rfl,rfl⟩:=h; rw [if_pos hj]; exact ⟨rfl,hg'⟩
       · rename_i hj; simp only [Option.some.injEq,Prod.mk.injEq] at h; obtain ⟨rfl,rfl⟩:=h; rw [if_neg hj]; exact ⟨rfl,hg'⟩
     | ret=>simp only [Option.some.injEq,Prod.mk.injEq] at h; obtain ⟨rfl,rfl⟩:=h; exact ⟨rfl,hg'⟩
 | loop c ih=>intro st ex st' h a w hg; simp only [aeval] at h; exact wp_loop_rounds n (zqS ih n st ex st' h a w hg)
 | exit id=>intro st ex st' h a w hg; simp [aeval] at h; obtain ⟨rfl,rfl⟩:=h; exact wp_exit ⟨rfl,hg⟩
 | ret=>intro st ex st' h a w hg; simp [aeval] at h; obtain ⟨rfl,rfl⟩:=h; exact wp_ret ⟨rfl,hg⟩
 | rangeFunc=>intro st ex st' h; simp [aeval] at h
 | scope=>intro st ex st' h; simp [aeval] at h
 | label=>intro st ex st' h; simp [aeval] at h
 | goto=>intro st ex st' h; simp [aeval] at h
 | refuse=>intro st ex st' h; simp [aeval] at h
end
end Go.Ab
namespace Go.Ab
open Go.RowKit
variable [Dr]
def single (f0:FuncId) (o:zaX):zaX:=fun f a m=>if f=f0 then o f a m else none
def orcG (P:Program) (o:zaX):zaX:=fun f a m=>@ite _ (CallOK P (single f o)) (Classical.propDecidable _) (o f a m) none
theorem orcG_ok (P:Program) (o:zaX):CallOK P (orcG P o):=by
 intro f args ms r ms' h; unfold orcG at h; split at h
 · rename_i hok; exact hok f args ms r ms' (by unfold single; rw [if_pos rfl]; exact h)
 · cases h
theorem orcG_none {P:Program} {o:zaX} {f:FuncId} {a:List AV} {m:Mem} (h:o f a m=none):orcG P o f a m=none:=by
 unfold orcG; split
 · exact h
 · rfl
theorem orcG_some {P:Program} {o:zaX} {f:FuncId} {a:List AV} {m:Mem} {r:AV×Mem} (hok:CallOK P (single f o)) (h:o f a m=some r):orcG P o f a m=some r:=by unfold orcG; rw [if_pos hok]; exact h
def acall (P:Program) (C:Cfg) (A:AnnF):Nat→zaX
 | 0,_,_,_=>none
 | n+1,f,args,ms=>match orcG P C.orc f args ms with
  | some r=>some r
  | none=>match P.funcs[f]? with
   | none=>none
   | some fn=>match fn.body with
     | none=>none
     | some c=>if fn.ntmps≤1000∧args.length≤fn.ntmps∧enters P f=true then
       (match aeval P C (A f) fn.ntmps (acall P C A n) (iter n) c { t:=argTab 0 args,m:=ms } with
       | some (.exit _,_)=>none
       | some (_,st)=>match zgp P (A f).frz fn st,zgy st.m ms with
         | some r,some ms'=>zlN r ms'
         | _,_=>none
       | none=>none) else none
section
variable {P:Program} {C:Cfg} {A:AnnF}
theorem ztk {S:Nat→Prop} {κ:Kap} {D:Nat→Prop} {w:World} {st:St} {tm:Array Value} (hT:∀ k,VRel S κ D w (get st.t k) (tm.getD k undef)) (hL:∀ b ent,look st.m b=some ent→EntAt S κ D w (κ b) ent)
  {rv:ResultVar} {a:AV} (h:resVar P st rv=some a):∃ x,((match rv with | .tmp t=>pure (tm.getD t undef) | .cell p t=>do loadVar t (← asAddr (tm.getD p undef)):Sem Value)).run P w=.ok x w∧VRel S κ D w a x:=by
 cases rv with
 | tmp t =>
   simp only [resVar] at h; split at h
   · cases h
   · rename_i a' ha; injection h with h; subst h; exact ⟨_,by simp,hT t⟩
 | cell p t =>
   simp only [resVar] at h; split at h
   case h_2=>cases h
   rename_i r hr; injection h with h; subst h; have hp:=hT p; obtain ⟨y,h1,h2,_⟩:=zlb hr hp hL; refine ⟨y,?_,h2⟩
   have hptr:∃ ad,tm.getD p undef=.pointer (some ad):=by
    generalize tm.getD p undef=q at hp; generalize get st.t p=av at hp hr; cases av <;> simp [aLoad] at hr
    case fp cs=>have:=hp.fp_inv; cases this; exact ⟨_,rfl⟩
    case loc b z i o=>obtain ⟨g,c,_,_,rfl⟩:=hp.loc_inv; exact ⟨_,rfl⟩
   obtain ⟨ad,had⟩:=hptr; rw [had] at h1; show (do loadVar t (← asAddr (tm.getD p undef)):Sem Value).run P w=_; rw [had]; simpa [Instr.loadAt,Instr.sureAddr,asAddr] using h1
theorem zmJ {S:Nat→Prop} {κ:Kap} {D:Nat→Prop} {w:World} {st:St} {tm:Array Value} (hT:∀ k,VRel S κ D w (get st.t k) (tm.getD k undef)) (hL:∀ b ent,look st.m b=some ent→EntAt S κ D w (κ b) ent) {fn:Func} {l:List AV}
  (h:mapO (resVar P st) fn.results.toList=some l):∃ x,(results fn tm).run P w=.ok x w∧((∃ a,l=[a]∧VRel S κ D w a x)∨(l.length≠1∧VRel S κ D w (.tup l) x)):=by
 obtain ⟨h1,h2⟩:=zfg h
 let f:ResultVar→Sem Value:=fun rv=>match rv with | .tmp t=>pure (tm.getD t undef) | .cell p t=>do loadVar t (← asAddr (tm.getD p undef))
 have key:∀ (rs:List ResultVar) (l:List AV),l.length=rs.length→(∀ (j:Nat) (rv:ResultVar),rs[j]?=some rv→∃ b,l[j]?=some b∧resVar P st rv=some b)→∃ vs:List Value,(rs.mapM f).run P w=.ok vs w∧vs.length=l.length∧∀ (j:Nat) (c:AV) (x:Value),l[j]?=some c→vs[j]?=some x→VRel S κ D w c x:=by
  intro rs
  induction rs with
  | nil=>intro l hl _; exact ⟨[],by simp,by simpa using hl.symm,by simp⟩
  | cons rv rs ih =>
    intro l hl hr
    cases l with
    | nil=>simp at hl
    | cons a l =>
      obtain ⟨b,hb,hrv⟩:=hr 0 rv rfl; simp at hb; subst hb; obtain ⟨x,hx,hv⟩:=ztk hT hL hrv; obtain ⟨vs,e1,e2,e3⟩:=ih l (by simpa using hl) (fun j rv' hj=>by simpa using hr (j+1) rv' (by simpa using hj)); refine ⟨x :: vs,?_,by simp [e2],fun j c y hj hy=>?_⟩
      · have hx':(f rv).run P w=.ok x w:=hx; simp only [List.mapM_cons,Sem.run_bind,hx',Result.andThen_ok,e1,Sem.run_pure]
      · cases j with
        | zero=>simp at hj hy; subst hj; subst hy; exact hv
        | succ j=>exact e3 j c y (by simpa using hj) (by simpa using hy)
 obtain ⟨vs,e1,e2,e3⟩:=key fn.results.toList l h1 h2
 have hm:(fn.results.mapM f).run P w=.ok vs.toArray w:=by
  obtain ⟨rl⟩:∃ rl:List ResultVar,fn.results=rl.toArray:=⟨fn.results.toList,by simp⟩
  rename_i hrl; rw [hrl,List.mapM_toArray]; rw [hrl] at e1; simp only at e1; simp only [Sem.run_map,e1,Result.andThen_ok]
 by_cases hl1:vs.length=1
 · match vs,hl1 with
   | [x],_ =>
     match l,e2 with
     | [a],_ =>
       refine ⟨x,?_,.inl ⟨a,rfl,e3 0 a x rfl rfl⟩⟩
       have:(results fn tm).run P w=((fn.results.mapM f).run P w).andThen fun vs w'=>.ok (if h:vs.size=1 then vs[0] else .tuple vs) w':=by simp only [results,Sem.run_bind]; rfl
       rw [this,hm]; rfl
 · refine ⟨.tuple vs.toArray,?_,.inr ⟨by omega,.tup l _ (by simpa using e2) (fun j c x hj hx=>e3 j c x hj (by simpa using hx))⟩⟩
   have:(results fn tm).run P w=((fn.results.mapM f).run P w).andThen fun vs w'=>.ok (if h:vs.size=1 then vs[0] else .tuple vs) w':=by simp only [results,Sem.run_bind]; rfl
   rw [this,hm]; simp [hl1]
theorem zje {is:List Nat} {m:Mem}:∀ {ms ms':Mem},zdQ is m ms=some ms'→(∀ c,(look ms c).isSome=true→900≤c→c < 950→(look ms' c).isSome=true)∧∀ b ent,look ms' b=some ent→(look ms b).isSome=true∧look m b=some ent∧((1000≤b∧(ent.box=false∨allL (fun cs=>allL (fun a=>a.isC 4 || nref is a) cs) ent.es=true))∨(900≤b∧b < 950∧ent.box=false))
 | [],ms',h=>by simp [zdQ] at h; subst h; simp [look]
 | (k,e) :: r,ms',h=>by
   have lift:∀ {l:Mem} {en:Ent},zdQ is m r=some l→look m k=some en→((1000≤k∧(en.box=false∨allL (fun cs=>allL (fun a=>a.isC 4 || nref is a) cs) en.es=true))∨(900≤k∧k < 950∧en.box=false))→ms'=(k,en) :: l→(∀ c,(look ((k,e) :: r) c).isSome=true→900≤c→c < 950→(look ms' c).isSome=true)∧∀ b ent,look ms' b=some ent→(look ((k,e) :: r) b).isSome=true∧look m b=some ent∧((1000≤b∧(ent.box=false∨allL (fun cs=>allL (fun a=>a.isC 4 || nref is a) cs) ent.es=true))∨(900≤b∧b < 950∧ent.box=false)):=by
    intro l en hr hk hc he; obtain ⟨i1,i2⟩:=zje hr; subst he; refine ⟨fun c h1 h2 h3=>?_,fun b ent hb=>?_⟩
    · simp only [look] at h1 ⊢; by_cases hck:c=k
      · rw [if_pos hck]; rfl
      · rw [if_neg hck] at h1 ⊢; exact i1 c h1 h2 h3
    · simp only [look] at hb ⊢; by_cases hbk:b=k
      · subst hbk; simp at hb ⊢; subst hb; exact ⟨hk,hc⟩
      · rw [if_neg hbk] at hb ⊢; exact i2 b ent hb
   simp only [zdQ] at h; split at h
   · rename_i hlt; split at h
     · rename_i hn; split at h
       case h_2=>cases h
       rename_i en l hk hr; split at h
       case isFalse=>cases h
       rename_i hbx; injection h with h; exact lift hr hk (.inr ⟨hn.1,hn.2,hbx⟩) h.symm
     · rename_i hn; obtain ⟨i1,i2⟩:=zje h; refine ⟨fun c h1 h2 h3=>?_,fun b ent hb=>?_⟩
       · refine i1 c ?_ h2 h3; simp only [look] at h1
         rwa [if_neg (fun e=>hn (by rw [← e]; exact ⟨h2,h3⟩))] at h1
       · obtain ⟨q1,q2⟩:=i2 b ent hb; refine ⟨?_,q2⟩; simp only [look]; split
         · rfl
         · exact q1
   · rename_i hge; split at h
     case h_2=>cases h
     rename_i en l hk hr; split at h
     case isFalse=>cases h
     rename_i hc; injection h with h; exact lift hr hk (.inl ⟨by omega,hc⟩) h.symm
theorem ent_tail {S S':Nat→Prop} {κ:Kap} {D D':Nat→Prop} {w:World} {kb:Option (Nat×Nat)} {ent:Ent} (h:EntAt S κ D w kb ent) (hS:∀ g,S g→S' g)
  (hn:∀ g c,kb=some (g,c)→¬ S' g) (hcl:ent.box=true→∀ cs∈ent.es,∀ a∈cs,∀ x,VRel S κ D w a x→VRel S' κ D' w a x):EntAt S' κ D' w kb ent:=by
 refine ⟨fun hc=>?_,fun hc=>?_⟩
 · obtain ⟨q1,q2⟩:=h.1 hc; refine ⟨q1,?_⟩
   cases kb with
   | none=>exact q2
   | some gc=>obtain ⟨g,c⟩:=gc; obtain ⟨cells,c1,c2,c3,c4,c5,c6⟩:=q2; refine ⟨cells,c1,c2,c3,c4,hn g c rfl,fun i j cs a hi hj=>?_⟩; obtain ⟨u,u1,u2,u3,u4⟩:=c6 i j cs a hi hj; exact ⟨u,u1,u2,fun hbx=>hcl hbx cs (List.mem_of_getElem? hi) a (List.mem_of_getElem? hj) u (u3 hbx),fun hbx=>(u4 hbx).mono hS (fun _ _=>rfl)⟩
 · exact (h.2 hc).mono hS (fun _ _=>rfl) (fun g c hk=>⟨rfl,hn g c hk⟩)
theorem nref_keep {S S':Nat→Prop} {κ:Kap} {D D':Nat→Prop} {w:World} {is:List Nat} (hD:∀ c∈is,900≤c→c < 950→D' c) {a:AV} {x:Value} (h:nref is a=true) (hv:VRel S κ D w a x):VRel S' κ D' w a x:=by
 cases a with
 | row c z off n =>
   cases off with
   | zero =>
     simp only [nref,Bool.and_eq_true,decide_eq_true_eq] at h; have hd:=hD c (by simpa using h.2.2) h.1 h.2.1
     cases hv with
     | c h=>cases h
     | row0 _ _ hd' hk=>exact .row0 c z hd hk
     | row _ _ _ _ g cc off' cap hd' hk hn ho hc=>exact .row c z 0 n g cc off' cap hd hk hn ho hc
   | succ o=>simp [nref] at h
 | map c=>simp only [nref,Bool.and_eq_true,decide_eq_true_eq] at h; have hd:=hD c (by simpa using h.2.2) h.1 h.2.1; obtain ⟨g,cc,hd',hk,rfl⟩:=hv.map_inv; exact .map c g cc hd hk
 | _=>simp [nref] at h
theorem zl3:∀ (args:List AV) (i k:Nat),get (argTab i args) k=if i≤k then (args[k - i]?).getD .bot else .bot
 | [],i,k=>by simp [argTab,get]
 | a :: r,i,k=>by
   simp only [argTab,get]; by_cases hk:k=i
   · subst hk; simp
   · rw [if_neg hk,zl3 r (i+1) k]; by_cases hle:i≤k
     · have:k - i=(k - (i+1))+1:=by omega
       rw [if_pos (by omega),if_pos hle,this,List.getElem?_cons_succ]
     · rw [if_neg (by omega),if_neg hle]
theorem ziU {P:Program} {f:FuncId} {fn:Func} {c:Code} {frz:Bool} {args:List AV} {ms ms':Mem} {r:AV} {vals:Array Value} {w:World} {S:Nat→Prop} {κ:Kap} {ex:Ex} {st:St} (hf:P.funcs[f]?=some fn) (hb:fn.body=some c) (hargs:args.length≤fn.ntmps)
  (hvl:vals.size=args.length) (hS:∀ g,S g→g < w.heap.size) (hk:Dr.ok S w) (hv:∀ (k:Nat) (a:AV) (x:Value),args[k]?=some a→vals[k]?=some x→VRel S κ (Dm ms) w a x)
  (hms:∀ b ent,look ms b=some ent→EntAt S κ (Dm ms) w (κ b) ent) (hinj:∀ b b' g c c',Dm ms b→Dm ms b'→κ b=some (g,c)→κ b'=some (g,c')→b=b')
  (hex:∀ id,ex≠.exit id) (hwp:∀ a,GoodF w S κ (Dm ms) fn.ntmps (fs { t:=argTab 0 args,m:=ms }) a w→c.wp P (PostC w S κ (Dm ms) fn.ntmps ex st) a w)
  (hres:zgp P frz fn st=some r) (hback:zgy st.m ms=some ms') (hpair:(ms'.all (fun p=>decide (1000≤p.1)) || r.flat 4)=true):Calls P f vals w (Left S κ ms ms' r w):=by
 refine calls_of_wp hf hb ?_
 have hgood:GoodF w S κ (Dm ms) fn.ntmps (fs { t:=argTab 0 args,m:=ms }) { tmps:=vals++Array.replicate (fn.ntmps - vals.size) undef,defers:=[] } w:=by
  refine ⟨S,κ,{
   base:=⟨hk,fun g hg=>⟨hS g hg,fun b c hl hκ=>by
    obtain ⟨ent,he⟩:=Option.isSome_iff_exists.1 hl; have:=hms b ent he; rw [hκ] at this
    exact this.notS hg⟩⟩
   defers:=rfl
   size:=by simp; omega
   os:=rfl
   tape:=rfl
   output:=.of
   grow:=Nat.le_refl _
   old:=fun _ _ _=>rfl
   sup:=fun _ h=>h
   snew:=fun _ h=>.inl h
   slt:=hS
   par:=fun _ _=>rfl
   parK:=fun _ _ h=>h
   own:=fun b g c' hb' hl hk=>.inr ⟨b,c',hb',hl,hk⟩
   inj:=hinj
   ents:=fun b ent he=>hms b ent he
   slots:=fun k=>?_ }⟩
  simp only [fs]; rw [zl3]; simp only [Nat.zero_le,if_true,Nat.sub_zero]
  cases hk:args[k]? with
  | none=>exact .bot _
  | some a =>
    have hlt:k < vals.size:=by have:=(List.getElem?_eq_some_iff.1 hk).1; omega
    have:(vals++Array.replicate (fn.ntmps - vals.size) undef).getD k undef=vals[k]:=by rw [Array.getD_eq_getD_getElem?,Array.getElem?_append,if_pos hlt,Array.getElem?_eq_getElem hlt]; rfl
    rw [this]; exact hv k a _ hk (Array.getElem?_eq_getElem hlt)
 refine wp_mono (hwp _ hgood) ?_
 rintro e a' w' ⟨rfl,S1,κ1,hg⟩
 have hpost:a'.defers=[]∧∃ v,(results fn a'.tmps).run P w'=.ok v w'∧Left S κ ms ms' r w (.returned v) w':=by
  refine ⟨hg.defers,?_⟩; unfold zgp at hres; obtain ⟨hbn,hbs⟩:=zje hback; have hkeep:∀ c,1000≤c→κ1 c=κ c:=fun c hc=>hg.par c hc
  have hown:∀ b g c,b < 1000→Dm ms' b→κ1 b=some (g,c)→Mine w κ (Dm ms) g:=fun b g c hb' hd hk=>by obtain ⟨e,he⟩:=Option.isSome_iff_exists.1 hd; exact hg.own b g c hb' (by simp [fs,(hbs b e he).2.1]) hk
  have hinj':∀ b b' g c c',Dm ms' b→Dm ms' b'→κ1 b=some (g,c)→κ1 b'=some (g,c')→b=b':=fun b b' g c c' hd hd' hk hk'=>by obtain ⟨e,he⟩:=Option.isSome_iff_exists.1 hd; obtain ⟨e',he'⟩:=Option.isSome_iff_exists.1 hd'; exact hg.inj b b' g c c' (by simp [fs,(hbs b e he).2.1]) (by simp [fs,(hbs b' e' he').2.1]) hk hk'
  have hpar:∀ (S2:Nat→Prop),(∀ g,S1 g→S2 g)→(∀ g,S2 g→S1 g∨(ms'.all (fun p=>decide (1000≤p.1))=true∧∃ b cp,b < 1000∧(look st.m b).isSome=true∧κ1 b=some (g,cp)))→∀ b ent,look ms' b=some ent→Dm ms b∧EntAt S2 κ1 (Dm ms') w' (κ1 b) ent:=by
   intro S2 h12 h21 b ent hbe; obtain ⟨q1,q2,q3⟩:=hbs b ent hbe; have hE:=hg.ents b ent q2; refine ⟨q1,ent_tail hE h12 (fun g cp hk hs=>?_) (fun hbx cs hcs a ha x hax=>?_)⟩
   · rw [hk] at hE; rcases h21 g hs with h | ⟨hall,b',cp',hb',hl',hk'⟩
     · exact hE.notS h
     · have:b=b':=hg.inj b b' g cp cp' (by simp [fs,q2]) hl' hk hk'; have h2:=List.all_eq_true.1 hall (b,ent) (zgn hbe); simp only [decide_eq_true_eq] at h2; omega
   · rcases q3 with ⟨_,h | h⟩ | ⟨_,_,h⟩
     · rw [h] at hbx; cases hbx
     · have h3:=zb2 (zb2 h cs hcs) a ha; simp only [Bool.or_eq_true] at h3; rcases h3 with h3 | h3
       · exact .c ((zep 4 h3 hax).mono h12 (fun _ _=>rfl))
       · exact nref_keep (fun c hc h1 h2=>hbn c (zeK hc) h1 h2) h3 hax
     · rw [h] at hbx; cases hbx
  have out:∀ (a:AV) (x:Value),VRel S1 κ1 (fun b=>(look st.m b).isSome=true) w' a x→outOf frz st.m a=some r→(results fn a'.tmps).run P w'=.ok x w'→∃ v,(results fn a'.tmps).run P w'=.ok v w'∧Left S κ ms ms' r w (.returned v) w':=by
   intro a x hax ho hrun; refine ⟨x,hrun,x,?_⟩
   have same:RRel S1 κ (Dm ms) (Mine w κ (Dm ms)) w' r x→∃ S' κ',Ending.returned x=Ending.returned x∧w'.os=w.os∧w'.tape=w.tape∧OutD w w'∧w.heap.size≤w'.heap.size∧(∀ g,g < w.heap.size→(∀ b c,Dm ms b→κ b≠some (g,c))→w'.heap[g]?=w.heap[g]?)∧(∀ g,S g→S' g)∧(∀ g,S' g→S g∨Mine w κ (Dm ms) g)∧(∀ g,S' g→g < w'.heap.size)∧(∀ b,1000≤b→κ' b=κ b)∧(∀ b g c,b < 1000→Dm ms' b→κ' b=some (g,c)→Mine w κ (Dm ms) g)∧(∀ b b' g c c',Dm ms' b→Dm ms' b'→κ' b=some (g,c)→κ' b'=some (g,c')→b=b')∧(∀ b ent,look ms' b=some ent→Dm ms b∧EntAt S' κ' (Dm ms') w' (κ' b) ent)∧RRel S' κ (Dm ms) (Mine w κ (Dm ms)) w' r x:=fun hr=>⟨S1,κ1,rfl,hg.os,hg.tape,hg.output,hg.grow,hg.old,hg.sup,hg.snew,hg.slt,hkeep,hown,hinj',hpar S1 (fun _ h=>h) (fun _ h=>.inl h),hr⟩
   let S2:Nat→Prop:=fun g=>S1 g∨∃ b cp,b < 1000∧(look st.m b).isSome=true∧κ1 b=some (g,cp)
   have frozen:CRel S2 w' r x→(∀ z e es,r≠.new z e es)→(∀ z e cs,r≠.newp z e cs)→(∀ e es,r≠.newm e es)→∃ S' κ',Ending.returned x=Ending.returned x∧w'.os=w.os∧w'.tape=w.tape∧OutD w w'∧w.heap.size≤w'.heap.size∧(∀ g,g < w.heap.size→(∀ b c,Dm ms b→κ b≠some (g,c))→w'.heap[g]?=w.heap[g]?)∧(∀ g,S g→S' g)∧(∀ g,S' g→S g∨Mine w κ (Dm ms) g)∧(∀ g,S' g→g < w'.heap.size)∧(∀ b,1000≤b→κ' b=κ b)∧(∀ b g c,b < 1000→Dm ms' b→κ' b=some (g,c)→Mine w κ (Dm ms) g)∧(∀ b b' g c c',Dm ms' b→Dm ms' b'→κ' b=some (g,c)→κ' b'=some (g,c')→b=b')∧(∀ b ent,look ms' b=some ent→Dm ms b∧EntAt S' κ' (Dm ms') w' (κ' b) ent)∧RRel S' κ (Dm ms) (Mine w κ (Dm ms)) w' r x:=by
    intro hr hn1 hn2 hn3; by_cases hall:ms'.all (fun p=>decide (1000≤p.1))=true
    case neg =>
     have hfl:r.flat 4=true:=by simp only [Bool.or_eq_true] at hpair; exact hpair.resolve_left hall
     refine same ?_; have hr1:CRel S1 w' r x:=zjN 4 hfl hr; unfold RRel; split
     · cases hr
     · cases hr
     · exact absurd rfl (hn1 _ _ _)
     · exact absurd rfl (hn3 _ _)
     · exact absurd rfl (hn2 _ _ _)
     · exact hr1
    refine ⟨S2,κ1,rfl,hg.os,hg.tape,hg.output,hg.grow,hg.old,fun g h=>.inl (hg.sup g h),?_,?_,hkeep,hown,hinj',hpar S2 (fun _ h=>.inl h) (fun _ h=>h.imp id (fun q=>⟨hall,q⟩)),?_⟩
    · intro g h; rcases h with h | ⟨b,cp,hb',hl,hk⟩
      · exact hg.snew g h
      · exact .inr (hg.own b g cp hb' hl hk)
    · intro g h; rcases h with h | ⟨b,cp,hb',hl,hk⟩
      · exact hg.slt g h
      · obtain ⟨ent,he⟩:=Option.isSome_iff_exists.1 hl; have:=hg.ents b ent he; rw [hk] at this; exact this.lt
    · unfold RRel; split
      · cases hr
      · cases hr
      · exact absurd rfl (hn1 _ _ _)
      · exact absurd rfl (hn3 _ _)
      · exact absurd rfl (hn2 _ _ _)
      · exact hr
   have hLL:∀ b ent,(fun b=>if b < 1000 then look st.m b else none) b=some ent→EntAt S1 κ1 (fun b=>(look st.m b).isSome=true) w' (κ1 b) ent:=fun b ent hbe=>by
    simp only at hbe; split at hbe
    · exact hg.ents b ent hbe
    · cases hbe
   have snapped:∀ a',snap (fun b=>if b < 1000 then look st.m b else none) 5 a=some a'→CRel S2 w' a' x:=by
    intro a'' hs; refine zh7 hLL (fun _ h=>.inl h) 5 hax hs (fun b hbm g cp hk=>.inr ⟨b,cp,?_,?_,hk⟩)
    · have:=snap_ids 5 a a'' hs b hbm; split at this
      · assumption
      · cases this
    · exact ids_D hLL 5 a x hax b hbm
   unfold outOf at ho; simp only at ho; split at ho
   · rename_i b z off m; split at ho
     · rename_i hge; split at ho
       case isFalse=>cases ho
       rename_i hc; injection ho with ho; subst ho; refine same ?_; have hD:Dm ms b:=hg.parK b hge hc.2; have hke:=hg.par b hge; show VRel S1 κ (Dm ms) w' (.row b z off m) x
       cases hax with
       | c h=>cases h
       | row0 _ _ hd hk=>exact .row0 b z hD (by rw [← hke]; exact hk)
       | row _ _ _ _ g c off' cap hd hk hn ho hc=>exact .row b z off m g c off' cap hD (by rw [← hke]; exact hk) hn ho hc
     split at ho
     case h_2=>cases ho
     rename_i ent hle; split at ho
     · rename_i hc; obtain ⟨_,hz,rfl,hm,hbx,hzp⟩:=hc; injection ho with ho; subst ho
       have hb1:b < 1000∧look st.m b=some ent:=by
        split at hle
        · exact ⟨by assumption,hle⟩
        · cases hle
       refine same ?_; have hE:=hg.ents b ent hb1.2
       cases hax with
       | c h=>cases h
       | row0 _ _ hd hk=>rw [hk] at hE; exact ⟨hzp,.inl ⟨rfl,(hE.1 (.inr (by omega))).2.1⟩⟩
       | row _ _ _ _ g cp off' cap hd hk hnc ho' hcc =>
         rw [hk] at hE; have hcap:=hcc rfl; subst hcap
         have hoff:off'=0:=by
          rcases ho' with h | ⟨_,h⟩
          · simpa using h
          · exact absurd rfl h
         subst hoff; refine ⟨hzp,.inr ⟨g,cap,hg.own b g cap hb1.1 (by simp [fs,hb1.2]) hk,by rw [hm],?_⟩⟩; obtain ⟨z1,cells,q1,q2,q3,q4,q5,q6⟩:=hE.1 (.inr (by omega)); subst hz; refine EntAt.of (.inr hzp) ⟨z1,cells,q1,q2,q3,Nat.le_trans q4 ent.cap_le,q5,fun i j cs av hi hj=>?_⟩; obtain ⟨u,u1,u2,_,u4⟩:=q6 i j cs av hi hj; exact ⟨u,u1,u2,(fun hb'=>by cases hb'),fun _=>u4 hbx⟩
     · have hcr:=snapped r ho; refine frozen hcr (fun z e es hr=>by rw [hr] at hcr; cases hcr) (fun z e cs hr=>by rw [hr] at hcr; cases hcr) (fun e es hr=>by rw [hr] at hcr; cases hcr)
   · rename_i b z i o; split at ho
     · rename_i hge; split at ho
       case isFalse=>cases ho
       rename_i hc; injection ho with ho; subst ho; refine same ?_; have hD:Dm ms b:=hg.parK b hge hc; have hke:=hg.par b hge; show VRel S1 κ (Dm ms) w' (.loc b z i o) x
       cases hax with
       | c h=>cases h
       | loc _ _ _ _ g c hd hk=>exact .loc b z i o g c hD (by rw [← hke]; exact hk)
     split at ho
     case h_2=>cases ho
     rename_i ent hle; split at ho
     case isFalse=>cases ho
     rename_i hc; obtain ⟨hz,hbx,rfl,rfl⟩:=hc; split at ho
     case h_2=>cases ho
     rename_i cs hes; split at ho
     case isFalse=>cases ho
     rename_i hC; injection ho with ho; subst ho
     have hb1:b < 1000∧look st.m b=some ent:=by
      split at hle
      · exact ⟨by assumption,hle⟩
      · cases hle
     refine same ?_; have hE:=hg.ents b ent hb1.2; obtain ⟨g,cp,hd,hk,rfl⟩:=hax.loc_inv; rw [hk] at hE; refine ⟨g,cp,hg.own b g cp hb1.1 hd hk,by simp,?_⟩; obtain ⟨z1,cells,q1,q2,q3,q4,q5,q6⟩:=hE.1 (.inl hbx); subst hz; rw [hes] at z1 q3 q6; refine EntAt.of (.inl rfl) ⟨z1,cells,q1,q2,q3,q4,q5,fun i j cs' av hi hj=>?_⟩; obtain ⟨u,u1,u2,u3,_⟩:=q6 i j cs' av hi hj; refine ⟨u,u1,u2,fun _=>.c ?_,fun hb'=>by cases hb'⟩
     have:cs'=cs:=by
      cases i with
      | zero=>simpa using hi.symm
      | succ i=>simp at hi
     subst this; exact zep 4 (zb2 hC av (List.mem_of_getElem? hj)) (u3 hbx)
   · rename_i b; split at ho
     case isTrue=>cases ho
     split at ho
     case h_2=>cases ho
     rename_i ent hle; split at ho
     · rename_i hc; obtain ⟨_,hz,hbx⟩:=hc; injection ho with ho; subst ho
       have hb1:b < 1000∧look st.m b=some ent:=by
        split at hle
        · exact ⟨by assumption,hle⟩
        · cases hle
       refine same ?_; have hE:=hg.ents b ent hb1.2; obtain ⟨g,cp,hd,hk,rfl⟩:=hax.map_inv; rw [hk] at hE; exact ⟨g,cp,hg.own b g cp hb1.1 hd hk,rfl,EntAt.ofMap rfl rfl (hE.2 (zlM hz hbx))⟩
     · have hcr:=snapped r ho; refine frozen hcr (fun z e es hr=>by rw [hr] at hcr; cases hcr) (fun z e cs hr=>by rw [hr] at hcr; cases hcr) (fun e es hr=>by rw [hr] at hcr; cases hcr)
   · have hcr:=snapped r ho; refine frozen hcr (fun z e es hr=>by rw [hr] at hcr; cases hcr) (fun z e cs hr=>by rw [hr] at hcr; cases hcr) (fun e es hr=>by rw [hr] at hcr; cases hcr)
  have first:∀ (a:AV) (x:Value),VRel S1 κ1 (fun b=>(look st.m b).isSome=true) w' a x→out1 P frz (fn.resultTypes.getD 0 0) st.m a=some r→(results fn a'.tmps).run P w'=.ok x w'→∃ v,(results fn a'.tmps).run P w'=.ok v w'∧Left S κ ms ms' r w (.returned v) w':=by
   intro a x hax ho hrun; unfold out1 at ho; split at ho
   · split at ho
     case h_2=>cases ho
     split at ho
     case h_2=>cases ho
     split at ho
     case isFalse=>cases ho
     rename_i hzp; injection ho with ho; subst ho; have:=hax.v_inv; subst this; exact ⟨_,hrun,_,S1,κ1,rfl,hg.os,hg.tape,hg.output,hg.grow,hg.old,hg.sup,hg.snew,hg.slt,hkeep,hown,hinj',hpar S1 (fun _ h=>h) (fun _ h=>.inl h),hzp,.inl ⟨rfl,rfl⟩⟩
   · exact out _ x (zj0 hax) ho hrun
  split at hres
  · rename_i a hl; obtain ⟨x,hx,h⟩:=zmJ (P:=P) hg.slots hg.ents hl; rcases h with ⟨a2,he,hv2⟩ | ⟨hne,_⟩
    · injection he with he; subst he; exact first a x hv2 hres hx
    · exact absurd rfl hne
  · rename_i l hne hl; obtain ⟨x,hx,h⟩:=zmJ (P:=P) hg.slots hg.ents hl; rcases h with ⟨a2,he,hv2⟩ | ⟨_,hv2⟩
    · exact absurd he (hne a2)
    · refine out _ x ?_ hres hx; obtain ⟨vs,rfl,hl1,hr1⟩:=hv2.tup_inv; exact .tup _ vs (by rw [zeL]; exact hl1) (nrmA_rel hr1)
  · cases hres
 cases ex with
 | normal=>exact hpost
 | ret=>exact hpost
 | exit id=>exact absurd rfl (hex id)
theorem ztA:∀ n,CallOK P (acall P C A n):=by
 intro n
 induction n with
 | zero=>intro f args ms r ms' h; simp [acall] at h
 | succ n ih =>
   intro f args ms r ms' h; simp only [acall] at h
   cases ho:orcG P C.orc f args ms with
   | some r0=>simp only [ho,Option.some.injEq] at h; subst h; exact orcG_ok P C.orc f args ms r ms' ho
   | none =>
   simp only [ho] at h
   cases hf:P.funcs[f]? with
   | none=>simp [hf] at h
   | some fn =>
     simp only [hf] at h
     cases hb:fn.body with
     | none=>simp [hb] at h
     | some c =>
       simp only [hb] at h; split at h
       case isFalse=>cases h
       rename_i hcond; obtain ⟨hN,hargs,hent⟩:=hcond; refine ⟨hent,?_⟩; intro w S κ vals hvl hS hk hv hms hinj
       have fin:∀ (ex:Ex) (st:St),(∀ id,ex≠.exit id)→aeval P C (A f) fn.ntmps (acall P C A n) (iter n) c { t:=argTab 0 args,m:=ms }=some (ex,st)→zgp P (A f).frz fn st=some r→zgy st.m ms=some ms'→(ms'.all (fun p=>decide (1000≤p.1)) || r.flat 4)=true→Calls P f vals w (Left S κ ms ms' r w):=by intro ex st hex hev hres hback hpair; exact ziU hf hb hargs hvl hS hk hv hms hinj hex (fun a hg=>zoW ih hN c _ ex st hev a w hg) hres hback hpair
       split at h
       · cases h
       · rename_i ex st hne hev; split at h
         · rename_i r' ms1 hr hm; unfold zlN at h; split at h
           case isFalse=>cases h
           rename_i hp; simp only [Option.some.injEq,Prod.mk.injEq] at h; obtain ⟨rfl,rfl⟩:=h; exact fin ex st (fun id e=>hne id e) hev hr hm hp
         · cases h
       · cases h
end
end Go.Ab
end
