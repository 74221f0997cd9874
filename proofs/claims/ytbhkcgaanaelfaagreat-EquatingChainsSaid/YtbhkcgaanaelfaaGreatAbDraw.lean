/- A region whose order is drawn; whole regions. -/
import Derived.Test.YtbhkcgaanaelfaaGreatAbRegion
namespace Go.Ab
open Go.RowKit
section
variable {P:Program} {C:Cfg} {M:List Nat} {call:za6} {N:Nat} {ops:Array Oper} {Q:Exit→Act→World→Prop}
variable {w0:World} {S0:Nat→Prop} {κ0:Kap} {K:Nat→Prop}
def pOf (listed:Array Bool):Nat→Bool:=fun j=>listed.getD j false
theorem pOf_put (listed:Array Bool) (i:Nat) (hi:i < listed.size):∀ j,pOf (listed.setIfInBounds i true) j=if j=i then true else pOf listed j:=by
 intro j
 unfold pOf
 by_cases hj:j=i
 · subst hj; simp [hi]
 · have:i≠j:=fun e=>hj e.symm
   simp [hj,Array.getElem?_setIfInBounds_ne this]
theorem pOf_none (n j:Nat):pOf (Array.replicate n false) j=false:=by
 unfold pOf
 rw [Array.getD_eq_getD_getElem?,Array.getElem?_replicate]
 split <;> rfl
def left_ (n:Nat) (p:Nat→Bool):Nat:=((List.range n).filter fun j=>!p j).length
theorem left_put {n i:Nat} {p p':Nat→Bool} (hi:i < n) (hpi:p i=false) (hp':∀ j,p' j=if j=i then true else p j):left_ n p' < left_ n p:=by
 unfold left_
 have h1:(List.range n).filter (fun j=>!p' j)=((List.range n).filter (fun j=>!p j)).filter (fun j=>j != i):=by
  rw [List.filter_filter]
  apply List.filter_congr
  intro j _
  rw [hp' j]
  by_cases hj:j=i
  · simp [hj]
  · simp [hj]
 rw [h1]
 exact List.length_filter_lt_length_iff_exists.2 ⟨i,List.mem_filter.2 ⟨List.mem_range.2 hi,by simp [hpi]⟩,by simp⟩
theorem draw_sound (hcall:CallOK P call) (hN:N≤1000) {ml:List Mk} {x0:FS} (hlen:ml.length=ops.size)
  (hml:∀ m k,ml[m]?=some k→ops[m]?=some k.o∧fs k.pre=stp ml x0 (fun _=>true) m∧aStepF P C M call N ops k.o (stp ml x0 (fun _=>true) m)=some k.res∧k.touch=zjH k.o (evF (stp ml x0 (fun _=>true) m).1) (stp ml x0 (fun _=>true) m).2)
  (hind:∀ (i j:Nat) (a b:Mk),i < j→ml[i]?=some a→ml[j]?=some b→(preds ops j j).contains i=true∨Ind ops a b)
  (hedge:∀ j o,ops[j]?=some o→∀ e∈o.after,Region.binds .any e=true→e.on < j)
  (hQ:∀ a w,GoodF w0 S0 κ0 K N (stp ml x0 (fun _=>true) ops.size) a w→Q .normal a w) :
  ∀ (fuel:Nat) (listed:Array Bool) (a:Act) (w:World),listed.size=ops.size→left_ ops.size (pOf listed)≤fuel→DC ops (pOf listed)→GoodF w0 S0 κ0 K N (stp ml x0 (pOf listed) ops.size) a w →
    wpAny P .any ops Q fuel listed a w:=by
 have done:∀ (listed:Array Bool) (a:Act) (w:World),listed.size=ops.size→GoodF w0 S0 κ0 K N (stp ml x0 (pOf listed) ops.size) a w→Region.ready .any ops listed=[]→Q .normal a w:=by
  intro listed a w hs hg hr
  have hall:∀ j,j < ops.size→pOf listed j=true:=by
   intro j
   induction j using Nat.strongRecOn with
   | _ j ih =>
     intro hj
     cases hp:pOf listed j with
     | true=>rfl
     | false =>
       exfalso
       have hmem:j∈Region.ready .any ops listed:=by
        refine mem_ready.2 ⟨?_,ops[j],Array.getElem?_eq_getElem hj,fun e he hb=>?_⟩
        · unfold pOf at hp
          have hjl:j < listed.size:=by omega
          simp [hjl] at hp ⊢
          exact hp
        · have hlt:=hedge j _ (Array.getElem?_eq_getElem hj) e he hb
          exact ih e.on hlt (by omega)
       rw [hr] at hmem
       cases hmem
  rw [stp_all ops.size hall] at hg
  exact hQ a w hg
 have step:∀ (listed:Array Bool) (a:Act) (w:World) (i:Nat),listed.size=ops.size→DC ops (pOf listed)→GoodF w0 S0 κ0 K N (stp ml x0 (pOf listed) ops.size) a w→i∈Region.ready .any ops listed →
   i < ops.size∧pOf listed i=false∧DC ops (pOf (listed.setIfInBounds i true))∧∀ Kc:Act→World→Prop,(∀ a' w',GoodF w0 S0 κ0 K N (stp ml x0 (pOf (listed.setIfInBounds i true)) ops.size) a' w'→Kc a' w')→wpOp P ops Q i Kc a w:=by
  intro listed a w i hs hdc hg hi
  obtain ⟨hu,o,ho,hed⟩:=mem_ready.1 hi
  have hin:i < ops.size:=(Array.getElem?_eq_some_iff.1 ho).1
  have hpi:pOf listed i=false:=by
   unfold pOf
   have hil:i < listed.size:=by omega
   simp [hil] at hu ⊢
   exact hu
  have hput:=pOf_put listed i (by omega)
  have hpre:∀ q∈preds ops i i,pOf listed q=true:=preds_in hdc i i (fun o' ho' e he hb=>by
   rw [ho] at ho'
   injection ho' with ho'
   subst ho'
   exact hed e he hb)
  have hdcp:∀ j,pOf listed j=true→∀ q∈preds ops j j,pOf listed q=true:=fun j hj=>preds_in hdc j j (fun o' ho' e he hb=>hdc j o' ho' hj e he hb)
  refine ⟨hin,hpi,?_,?_⟩
  · intro j o' ho' hj e he hb
    rw [hput] at hj ⊢
    by_cases hji:j=i
    · subst hji
      rw [ho] at ho'
      injection ho' with ho'
      subst ho'
      split
      · rfl
      · exact hed e he hb
    · rw [if_neg hji] at hj
      split
      · rfl
      · exact hdc j o' ho' hj e he hb
  · intro Kc hK
    have hlt:i < ml.length:=by omega
    have hmi:ml[i]?=some ml[i]:=List.getElem?_eq_getElem hlt
    obtain ⟨h1,_,h2,h3⟩:=hml i ml[i] hmi
    have hag:=stp_agree (x0:=x0) hmi hpi (fun m k hk=>(hml m k hk).2.1) hind hdcp hpre ops.size (by omega)
    rw [ho] at h1
    injection h1 with h1
    have hst:aStepF P C M call N ops ml[i].o (stp ml x0 (pOf listed) ops.size)=some ml[i].res:=by
     rw [← h2]
     refine (zyd ?_).symm
     rw [← h3]
     exact hag.symm
    refine zsn hcall hN (by rw [ho,h1]) hst hg (fun a' w' hg'=>hK a' w' ?_)
    rw [← stp_put hmi hpi hput hind hdcp ops.size hin]
    exact hg'
 intro fuel
 induction fuel with
 | zero =>
   intro listed a w hs hl hdc hg
   have hnil:Region.ready .any ops listed=[]:=by
    cases hr:Region.ready .any ops listed with
    | nil=>rfl
    | cons i r =>
      exfalso
      obtain ⟨hin,hpi,_⟩:=step listed a w i hs hdc hg (by rw [hr]; exact List.mem_cons_self)
      have:=left_put hin hpi (pOf_put listed i (by omega))
      omega
   exact ⟨hnil,done listed a w hs hg hnil⟩
 | succ fuel ih =>
   intro listed a w hs hl hdc hg
   refine ⟨done listed a w hs hg,fun i hi=>?_⟩
   obtain ⟨hin,hpi,hdc',hwp⟩:=step listed a w i hs hdc hg hi
   refine hwp _ (fun a' w' hg'=>ih _ a' w' (by simpa using hs) ?_ hdc' hg')
   have:=left_put hin hpi (pOf_put listed i (by omega))
   omega
theorem GoodF.drew {x:FS} {a:Act} {w:World} (h:GoodF w0 S0 κ0 K N x a w) (n:Nat):GoodF w0 S0 κ0 K N x a { w with drawn:=n }:=by
 obtain ⟨S,κ,h⟩:=h
 have hE:∀ {D:Nat→Prop} {kb:Option (Nat×Nat)} {ent:Ent},EntAt S κ D w kb ent→EntAt S κ D { w with drawn:=n } kb ent:=fun hE=>hE.mono (fun _ h=>h) (fun _ _=>rfl) (fun _ h=>h) (fun _ _=>rfl) (fun g c hk=>⟨rfl,by
  rw [hk] at hE
  exact hE.notS⟩)
 exact ⟨S,κ,{ h with
  ents:=fun b ent hb=>hE (h.ents b ent hb)
  slots:=fun k=>VRel.mono (w:=w) (w':={ w with drawn:=n }) (fun _ h=>h) (fun _ _=>rfl) (fun _ h=>h) (fun _ _=>rfl) (h.slots k) }⟩
theorem zwN (hcall:CallOK P call) (hN:N≤1000) {id:Nat} {draw:Bool} {st st':St} (h:zhu P C M call N ops draw st=some st') {a:Act} {w:World} (hg:GoodF w0 S0 κ0 K N (fs st) a w)
  (hQ:∀ a w,GoodF w0 S0 κ0 K N (fs st') a w→Q .normal a w):(Code.region id ops draw).wp P Q a w:=by
 unfold zhu at h
 have hg1:=hg.preDel ops.toList st
 cases ho:runOps P C M call N ops 0 ops.toList (preDel ops.toList st) with
 | none=>simp only [ho] at h; cases h
 | some q =>
   obtain ⟨ml,st1⟩:=q
   simp only [ho] at h
   split at h
   case isFalse=>cases h
   rename_i hcond
   injection h with h
   subst h
   cases draw with
   | true =>
     have hok:((drawOk ops ml=true∧zkW 0 ops.toList=true)∧P.follows .mixedOrders=true):=by simpa using hcond
     obtain ⟨⟨hok1,hok2⟩,hok3⟩:=hok
     obtain ⟨m1,m2,hfin⟩:=zuj ops.toList 0 (preDel ops.toList st) st1 ml ho
     have hki:∀ (m:Nat) (k:Mk),ml[m]?=some k→k.i=m:=fun m k hk=>by have:=(m2 m k hk).1; omega
     refine wp_region_any hok3 (draw_sound (C:=C) (M:=M) (w0:=w0) (S0:=S0) (κ0:=κ0) (K:=K) hcall hN (ml:=ml) (x0:=fs (preDel ops.toList st)) (by simpa using m1) ?_ ?_ ?_ ?_ ops.size _ a _ (by simp) ?_ ?_ ?_)
     · intro m k hk
       obtain ⟨_,q2,q5,q3,q4⟩:=m2 m k hk
       exact ⟨by simpa using q2,q5,q3,q4⟩
     · intro i j x y hij hx hy
       rcases zsm ml hok1 i j x y hij hx hy with h | h
       · rw [hki i x hx,hki j y hy] at h
         exact .inl h
       · exact .inr (Ind.of h)
     · intro j o hj e he hb
       have:=zri ops.toList 0 hok2 j o (by simpa using hj) e he hb
       omega
     · intro a' w' hg'
       refine hQ a' w' ?_
       rw [hfin]
       simpa using hg'
     · unfold left_
       exact Nat.le_trans (List.length_filter_le _ _) (by simp)
     · intro j o hj hp
       rw [pOf_none] at hp
       cases hp
     · have h0:∀ n,stp ml (fs (preDel ops.toList st)) (pOf (Array.replicate ops.size false)) n=fs (preDel ops.toList st):=by
        intro n
        induction n with
        | zero=>rfl
        | succ n ih =>
          simp only [stp]
          rw [pOf_none,ih]
          cases ml[n]? <;> simp
       rw [h0]
       exact hg1.drew _
   | false =>
     refine wp_region ?_
     have:=zvf hcall hN ops.toList 0 (preDel ops.toList st) st1 ml ho (fun j o hj=>by simpa using hj) a w hg1 hQ
     rw [← List.range_eq_range'] at this
     simpa using this
end
end Go.Ab
