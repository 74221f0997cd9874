/- The state as a whole: what it says, and that deleting, freezing and the operations keep it. -/
import Derived.Test.YtbhkcgaanaelfaaGreatAbMem2
namespace Go.Ab
open Go.RowKit
section
variable {S:Nat→Prop} {κ:Kap} {D:Nat→Prop} {w:World}
theorem ztu {z:Nat}:∀ {es:List (List AV)} {j:Nat} {c:AV},(∀ cs∈es,cs.length=z)→es.flatten[j]?=some c→∃ r q cs,es[r]?=some cs∧cs[q]?=some c∧j=r*z+q
 | [],j,c,_,h=>by simp at h
 | cs :: es,j,c,hz,h=>by
   rw [List.flatten_cons,List.getElem?_append] at h
   split at h
   · exact ⟨0,j,cs,rfl,h,by simp⟩
   · rename_i hlt
     have hl:=hz cs (by simp)
     obtain ⟨r,q,cs',h1,h2,h3⟩:=ztu (fun cs hcs=>hz cs (by simp [hcs])) h
     refine ⟨r+1,q,cs',by simpa using h1,h2,?_⟩
     rw [Nat.add_mul]; omega
theorem zmY {L:Nat→Option Ent} {S':Nat→Prop} (hL:∀ b ent,L b=some ent→EntAt S κ D w (κ b) ent) (hSS:∀ g,S g→S' g) :
  ∀ (k:Nat) {a a':AV} {x:Value},VRel S κ D w a x→snap L k a=some a'→(∀ b∈a.ids L k,∀ g c,κ b=some (g,c)→S' g)→CRel S' w a' x:=by
 intro k
 induction k with
 | zero=>intro a a' x _ h; simp [snap] at h
 | succ k ih =>
   intro a a' x hv h hids
   have lists:∀ (cs l:List AV) (vs:Array Value),mapO (snap L k) cs=some l→vs.size=cs.length→(∀ (j:Nat) (c:AV) (x:Value),cs[j]?=some c→vs[j]?=some x→VRel S κ D w c x) →
     (∀ b∈cs.flatMap (AV.ids L k),∀ g c,κ b=some (g,c)→S' g)→vs.size=l.length∧∀ (j:Nat) (c:AV) (x:Value),l[j]?=some c→vs[j]?=some x→CRel S' w c x:=by
    intro cs l vs hm hl hr hid
    obtain ⟨h1,h2⟩:=zhI hm
    refine ⟨by omega,fun j c x hj hx=>?_⟩
    have hlt:j < cs.length:=by have:=(List.getElem?_eq_some_iff.1 hj).1; omega
    obtain ⟨b,hb,hs⟩:=h2 j _ (List.getElem?_eq_getElem hlt)
    rw [hj] at hb
    injection hb with hb
    subst hb
    exact ih (hr j _ x (List.getElem?_eq_getElem hlt) hx) hs (fun b hb=>hid b (List.mem_flatMap.2 ⟨_,List.getElem_mem hlt,hb⟩))
   cases a with
   | v y=>simp [snap] at h; subst h; rw [hv.v_inv]; exact .v _
   | sl z es=>simp [snap] at h; subst h; exact hv.sl_inv.mono hSS (fun _ _=>rfl)
   | fp cs=>simp [snap] at h; subst h; exact hv.fp_inv.mono hSS (fun _ _=>rfl)
   | agg cs =>
     simp only [snap] at h
     split at h
     · rename_i l hm
       injection h with h
       subst h
       obtain ⟨vs,rfl,hl,h1,hr⟩:=hv.agg_inv
       obtain ⟨q1,q2⟩:=lists cs l vs hm hl hr hids
       exact .agg l vs q1 h1 q2
     · cases h
   | tup cs =>
     simp only [snap] at h
     split at h
     · rename_i l hm
       injection h with h
       subst h
       obtain ⟨vs,rfl,hl,hr⟩:=hv.tup_inv
       obtain ⟨q1,q2⟩:=lists cs l vs hm hl hr hids
       exact .tup l vs q1 q2
     · cases h
   | fn f cs =>
     simp only [snap] at h
     split at h
     · rename_i l hm
       injection h with h
       subst h
       obtain ⟨vs,rfl,hl,hr⟩:=hv.fn_inv
       obtain ⟨q1,q2⟩:=lists cs l vs hm hl hr hids
       exact .fn f l vs q1 q2
     · cases h
   | row b z off n =>
     simp only [snap] at h
     split at h
     case h_2=>cases h
     rename_i ent hl
     split at h
     case isFalse=>cases h
     rename_i hc
     obtain ⟨rfl,hbx,hzp,hle⟩:=hc
     injection h with h
     subst h
     obtain ⟨hzz,hent⟩:=(hL b ent hl).1 (.inr hzp)
     have hlen:((ent.es.drop off).take n).length=n:=by simp; omega
     cases hv with
     | c h=>cases h
     | row0 _ _ hd hk=>exact .sl _ _ none 0 0 (fun _ _=>undef) (by simp) (Nat.le_refl _) (by simp) (.inl (by simp)) (by simp)
     | row _ _ _ _ g c off' cap hd hk hnc ho hcc =>
       rw [hk] at hent
       obtain ⟨cells,hcells,hsz,hle2,hm,hnS,hcell⟩:=hent
       have hel:∀ (i j:Nat) (cs:List AV) (c:AV),((ent.es.drop off).take n)[i]?=some cs→cs[j]?=some c→i < n∧∃ u,cells[off*ent.z+(i*ent.z+j)]?=some u∧u.oneCell'=true∧CRel S w c u:=by
        intro i j cs c hi hj
        rw [List.getElem?_take] at hi
        split at hi
        case isFalse=>cases hi
        rename_i hin
        rw [List.getElem?_drop] at hi
        obtain ⟨u,e1,e2,_,e4⟩:=hcell _ _ cs c hi hj
        rw [Nat.add_mul,Nat.add_assoc] at e1
        exact ⟨hin,u,e1,e2,e4 hbx⟩
       refine .sl _ _ (some ⟨g,off',none⟩) n cap (fun i j=>(cells[off*ent.z+(i*ent.z+j)]?).getD undef) hlen.symm hnc (fun cs hcs=>hzz cs (List.mem_of_mem_drop (List.mem_of_mem_take hcs))) ?_ ?_
       · refine .inr ⟨_,rfl,hids b (by simp [AV.ids]) g c hk,fun i j cs c hi hj=>?_⟩
         obtain ⟨hin,u,e1,e2,_⟩:=hel i j cs c hi hj
         have hoff:off'=off*ent.z:=by
          rcases ho with h | ⟨h,_⟩
          · exact h
          · omega
         rw [add_at,cell_of_row w g _ cells ent.e (0,0) hcells,hoff,e1]
         exact ⟨rfl,e2⟩
       · intro i j cs c hi hj
         obtain ⟨hin,u,e1,e2,e3⟩:=hel i j cs c hi hj
         rw [e1]
         exact e3.mono hSS (fun _ _=>rfl)
   | loc b z i o =>
     simp only [snap] at h
     split at h
     case h_2=>cases h
     rename_i ent hl
     split at h
     case isFalse=>cases h
     rename_i hz
     obtain ⟨rfl,hce⟩:=hz
     split at h
     case h_2=>cases h
     rename_i cs hi
     obtain ⟨hzz,hent⟩:=(hL b ent hl).1 hce
     obtain ⟨g,c,hd,hk,rfl⟩:=hv.loc_inv
     rw [hk] at hent
     obtain ⟨cells,hcells,hsz,hle2,hmx,hnS,hcell⟩:=hent
     have fin:∀ l:List AV,(∀ (j:Nat) (c:AV),l[j]?=some c→∃ u,cells[i*ent.z+o+j]?=some u∧u.oneCell'=true∧CRel S' w c u)→CRel S' w (.fp l) (.pointer (some ⟨g,i*ent.z+o,none⟩)):=by
      intro l hel
      refine .fp l _ (fun j=>(cells[i*ent.z+o+j]?).getD undef) (hids b (by simp [AV.ids]) g c hk) (fun j c hj=>?_) (fun j c hj=>?_)
      · obtain ⟨u,e1,e2,_⟩:=hel j c hj
        rw [add_at,cell_of_row w g _ cells ent.e (0,0) hcells,e1]
        exact ⟨rfl,e2⟩
      · obtain ⟨u,e1,e2,e3⟩:=hel j c hj
        rw [e1]
        exact e3
     cases hbx:ent.box with
     | true =>
       simp only [hbx,if_true] at h
       split at h
       case h_2=>cases h
       rename_i l hm
       injection h with h
       subst h
       obtain ⟨h1,h2⟩:=zhI hm
       refine fin l (fun j c hj=>?_)
       have hlt:j < (cs.drop o).length:=by have:=(List.getElem?_eq_some_iff.1 hj).1; omega
       obtain ⟨b',hb',hs⟩:=h2 j _ (List.getElem?_eq_getElem hlt)
       rw [hj] at hb'
       injection hb' with hb'
       subst hb'
       have hget:cs[o+j]?=some (cs.drop o)[j]:=by rw [← List.getElem?_drop]; exact List.getElem?_eq_getElem hlt
       obtain ⟨u,e1,e2,e3,e4⟩:=hcell i (o+j) cs _ hi hget
       rw [← Nat.add_assoc] at e1
       refine ⟨u,e1,e2,ih (e3 hbx) hs (fun b' hb'=>hids b' ?_)⟩
       simp only [AV.ids,hl,hbx,if_true,hi]
       exact List.mem_cons_of_mem _ (List.mem_flatMap.2 ⟨_,List.getElem_mem hlt,hb'⟩)
     | false =>
       simp only [hbx,Bool.false_eq_true,if_false] at h
       split at h
       · rename_i hio
         obtain ⟨rfl,rfl⟩:=hio
         injection h with h
         subst h
         refine .fa ent.z ent.es ⟨g,0*ent.z+0,none⟩ (fun i j=>(cells[i*ent.z+j]?).getD undef) hzz (hids b (by simp [AV.ids]) g c hk) (fun i j cs c hi hj=>?_) (fun i j cs c hi hj=>?_)
         · obtain ⟨u,e1,e2,_,_⟩:=hcell i j cs c hi hj
           rw [add_at,cell_of_row w g _ cells ent.e (0,0) hcells,Nat.zero_mul,Nat.zero_add,e1]
           exact ⟨rfl,e2⟩
         · obtain ⟨u,e1,e2,_,e4⟩:=hcell i j cs c hi hj
           rw [e1]
           exact (e4 hbx).mono hSS (fun _ _=>rfl)
       injection h with h
       subst h
       refine fin _ (fun j c hj=>?_)
       rw [zyr,List.getElem?_drop] at hj
       obtain ⟨r,q,cs',h1,h2,h3⟩:=ztu (fun cs hcs=>hzz cs (List.mem_of_mem_drop hcs)) hj
       rw [List.getElem?_drop] at h1
       obtain ⟨u,e1,e2,_,e4⟩:=hcell (i+r) q cs' c h1 h2
       have:(i+r)*ent.z+q=i*ent.z+o+j:=by rw [Nat.add_mul]; omega
       rw [this] at e1
       exact ⟨u,e1,e2,(e4 hbx).mono hSS (fun _ _=>rfl)⟩
   | mp es=>simp [snap] at h; subst h; exact hv.mp_inv.mono hSS (fun _ _=>rfl)
   | fa z es=>simp [snap] at h; subst h; exact hv.fa_inv.mono hSS (fun _ _=>rfl)
   | map b =>
     simp only [snap] at h
     split at h
     case h_2=>cases h
     rename_i ent hl
     split at h
     case isFalse=>cases h
     rename_i hz
     injection h with h
     subst h
     obtain ⟨g,c,hd,hk,rfl⟩:=hv.map_inv
     obtain ⟨g',c',en,clock,hk',hn,hg,hlen,h1,h2,h3,h4⟩:=(hL b ent hl).2 (zoH hz.1 hz.2)
     rw [hk] at hk'
     simp only [Option.some.injEq,Prod.mk.injEq] at hk'
     obtain ⟨rfl,rfl⟩:=hk'
     exact .mp _ g en clock (hids b (by simp [AV.ids]) g c hk) hg hlen h1 h2 h3 (fun i k v e hi he=>(h4 i k v e hi he).1.mono hSS (fun _ _=>rfl)) (fun i k v e hi he=>(h4 i k v e hi he).2.mono hSS (fun _ _=>rfl))
   | _=>simp [snap] at h
end
theorem snap_ids {L:Nat→Option Ent}:∀ (k:Nat) (a a':AV),snap L k a=some a'→∀ b∈a.ids L k,(L b).isSome=true:=by
 intro k
 induction k with
 | zero=>intro a a' h; simp [snap] at h
 | succ k ih =>
   intro a a' h b hb
   have lists:∀ (cs l:List AV),mapO (snap L k) cs=some l→b∈cs.flatMap (AV.ids L k)→(L b).isSome=true:=by
    intro cs l hm hb
    obtain ⟨c,hc,hb⟩:=List.mem_flatMap.1 hb
    obtain ⟨j,hj⟩:=List.mem_iff_getElem?.1 hc
    obtain ⟨c',_,hs⟩:=(zhI hm).2 j c hj
    exact ih c c' hs b hb
   cases a with
   | agg cs =>
     simp only [snap] at h
     split at h
     · rename_i l hm; exact lists cs l hm hb
     · cases h
   | tup cs =>
     simp only [snap] at h
     split at h
     · rename_i l hm; exact lists cs l hm hb
     · cases h
   | fn f cs =>
     simp only [snap] at h
     split at h
     · rename_i l hm; exact lists cs l hm hb
     · cases h
   | row c z off n =>
     simp only [snap] at h
     simp [AV.ids] at hb
     subst hb
     split at h
     · rename_i ent hl; simp [hl]
     · cases h
   | loc c z i o =>
     simp only [snap] at h
     split at h
     case h_2=>cases h
     rename_i ent hl
     simp only [AV.ids,List.mem_cons,hl] at hb
     rcases hb with rfl | hb
     · simp [hl]
     · split at h
       case isFalse=>cases h
       split at h
       case h_2=>cases h
       rename_i cs hi
       split at hb
       · rename_i hbx
         simp only [hi] at hb
         simp only [hbx,if_true] at h
         split at h
         · rename_i l hm; exact lists _ l hm hb
         · cases h
       · cases hb
   | map c =>
     simp [AV.ids] at hb
     subst hb
     simp only [snap] at h
     split at h
     · rename_i ent hl; simp [hl]
     · cases h
   | _=>simp [AV.ids] at hb
def Mine (w0:World) (κ0:Kap) (K:Nat→Prop) (g:Nat):Prop:=w0.heap.size≤g∨∃ b c,b < 1000∧K b∧κ0 b=some (g,c)
structure Good (w0:World) (S0:Nat→Prop) (κ0:Kap) (K:Nat→Prop) (N:Nat) (S:Nat→Prop) (κ:Kap) (T:Nat→AV) (L:Nat→Option Ent) (a:Act) (w:World):Prop where
 defers:a.defers=[]
 size:a.tmps.size=N
 os:w.os=w0.os
 tape:w.tape=w0.tape
 output:w.output=w0.output
 grow:w0.heap.size≤w.heap.size
 old:∀ g,g < w0.heap.size→(∀ b c,K b→κ0 b≠some (g,c))→w.heap[g]?=w0.heap[g]?
 sup:∀ g,S0 g→S g
 snew:∀ g,S g→S0 g∨Mine w0 κ0 K g
 slt:∀ g,S g→g < w.heap.size
 par:∀ b,1000≤b→κ b=κ0 b
 parK:∀ b,1000≤b→(L b).isSome=true→K b
 own:∀ b g c,b < 1000→(L b).isSome=true→κ b=some (g,c)→Mine w0 κ0 K g
 inj:∀ b b' g c c',(L b).isSome=true→(L b').isSome=true→κ b=some (g,c)→κ b'=some (g,c')→b=b'
 ents:∀ b ent,L b=some ent→EntAt S κ (fun b=>(L b).isSome=true) w (κ b) ent
 slots:∀ k,VRel S κ (fun b=>(L b).isSome=true) w (T k) (a.tmps.getD k undef)
def killE (b:Nat) (e:Ent):Ent:=if e.box then { e with es:=e.es.map fun cs=>cs.map (AV.kill b 4) } else e
def killL (b:Nat) (L:Nat→Option Ent):Nat→Option Ent:=fun c=>if c=b then none else (L c).map (killE b)
theorem zma (b:Nat):∀ (t:Tab) (k:Nat),get (killT b t) k=(get t k).kill b 4
 | [],k=>rfl
 | (j,a) :: r,k=>by
   simp only [killT,get]
   split
   · rfl
   · exact zma b r k
theorem zjr (b:Nat):∀ (m:Mem) (c:Nat),look (delM b m) c=killL b (look m) c
 | [],c=>by simp [delM,look,killL]
 | (j,e) :: r,c=>by
   have ih:=zjr b r c
   simp only [delM,killL,look] at *
   by_cases hj:j=b
   · subst hj
     simp only [if_true]
     rw [ih]
     by_cases hc:c=j
     · simp [hc]
     · simp [hc]
   · simp only [hj,if_false,look]
     by_cases hc:c=j
     · subst hc
       simp [hj,killE]
     · simp only [hc,if_false]
       exact ih
section
variable {S:Nat→Prop} {κ:Kap} {D D':Nat→Prop} {w:World}
theorem zpD {b:Nat} (hD:∀ c,D c→c≠b→D' c):∀ (k:Nat) {a:AV} {x:Value},VRel S κ D w a x→VRel S κ D' w (a.kill b k) x:=by
 intro k
 induction k with
 | zero=>intro a x _; exact .bot x
 | succ k ih =>
   intro a x h
   have lists:∀ (cs:List AV) (vs:Array Value),vs.size=cs.length→(∀ (j:Nat) (c:AV) (x:Value),cs[j]?=some c→vs[j]?=some x→VRel S κ D w c x) →
     vs.size=(cs.map (AV.kill b k)).length∧∀ (j:Nat) (c:AV) (x:Value),(cs.map (AV.kill b k))[j]?=some c→vs[j]?=some x→VRel S κ D' w c x:=by
    intro cs vs hl hr
    refine ⟨by simpa using hl,fun j c x hj hx=>?_⟩
    rw [List.getElem?_map] at hj
    cases hc:cs[j]? with
    | none=>simp [hc] at hj
    | some c' =>
      simp [hc] at hj
      subst hj
      exact ih (hr j c' x hc hx)
   cases a with
   | bot=>exact .bot x
   | v y=>rw [h.v_inv]; exact .c (.v _)
   | sl z es=>exact .c h.sl_inv
   | fp cs=>exact .c h.fp_inv
   | agg cs =>
     obtain ⟨vs,rfl,hl,h1,hr⟩:=h.agg_inv
     obtain ⟨q1,q2⟩:=lists cs vs hl hr
     exact .agg _ vs q1 h1 q2
   | tup cs =>
     obtain ⟨vs,rfl,hl,hr⟩:=h.tup_inv
     obtain ⟨q1,q2⟩:=lists cs vs hl hr
     exact .tup _ vs q1 q2
   | fn f cs =>
     obtain ⟨vs,rfl,hl,hr⟩:=h.fn_inv
     obtain ⟨q1,q2⟩:=lists cs vs hl hr
     exact .fn f _ vs q1 q2
   | loc c z i o =>
     obtain ⟨g,cp,hd,hk,rfl⟩:=h.loc_inv
     simp only [AV.kill]
     split
     · exact .bot _
     · rename_i hne; exact .loc c z i o g cp (hD c hd hne) hk
   | row c z o n =>
     simp only [AV.kill]
     split
     · exact .bot _
     · rename_i hne
       cases h with
       | c h=>cases h
       | row0 _ _ hd hk=>exact .row0 c z (hD c hd hne) hk
       | row _ _ _ _ g cp off' cap hd hk hn ho hc=>exact .row c z o n g cp off' cap (hD c hd hne) hk hn ho hc
   | map c =>
     obtain ⟨g,cp,hd,hk,rfl⟩:=h.map_inv
     simp only [AV.kill]
     split
     · exact .bot _
     · rename_i hne; exact .map c g cp (hD c hd hne) hk
   | mp es=>exact .c h.mp_inv
   | fa z es=>exact .c h.fa_inv
   | new=>exact .bot x
   | newp=>exact .bot x
   | newm=>exact .bot x
theorem ent_map {f:AV→AV} {kb:Option (Nat×Nat)} {ent:Ent} (h:EntAt S κ D w kb ent) (hf:∀ a x,VRel S κ D w a x→VRel S κ D' w (f a) x) :
  EntAt S κ D' w kb (if ent.box then { ent with es:=ent.es.map fun cs=>cs.map f } else ent):=by
 cases hb:ent.box with
 | false =>
   simp only [Bool.false_eq_true,if_false]
   refine ⟨fun hce=>?_,h.2⟩
   obtain ⟨h1,h2⟩:=h.1 hce
   refine ⟨h1,?_⟩
   cases kb with
   | none=>exact ⟨h2.1,hb⟩
   | some gc =>
     obtain ⟨g,c⟩:=gc
     obtain ⟨cells,q1,q2,q3,q4,q5,q6⟩:=h2
     refine ⟨cells,q1,q2,q3,q4,q5,fun i j cs a hi hj=>?_⟩
     obtain ⟨u,u1,u2,_,u4⟩:=q6 i j cs a hi hj
     exact ⟨u,u1,u2,(fun hb'=>by rw [hb] at hb'; cases hb'),u4⟩
 | true =>
   simp only [if_true]
   obtain ⟨h1,h2⟩:=h.1 (.inl hb)
   refine EntAt.of (.inl rfl) ⟨fun cs hcs=>?_,?_⟩
   · simp at hcs
     obtain ⟨cs',hcs',rfl⟩:=hcs
     simpa using h1 cs' hcs'
   · cases kb with
     | none=>rw [hb] at h2; exact absurd h2.2 (by simp)
     | some gc =>
       obtain ⟨g,c⟩:=gc
       obtain ⟨cells,q1,q2,q3,q4,q5,q6⟩:=h2
       refine ⟨cells,q1,q2,by simpa using q3,q4,q5,fun i j cs a hi hj=>?_⟩
       simp at hi
       obtain ⟨cs',hcs',rfl⟩:=hi
       simp at hj
       obtain ⟨a',ha',rfl⟩:=hj
       obtain ⟨u,u1,u2,u3,_⟩:=q6 i j cs' a' hcs' ha'
       exact ⟨u,u1,u2,fun _=>hf a' u (u3 hb),fun hb'=>by cases hb'⟩
end
section
variable {w0:World} {S0:Nat→Prop} {κ0:Kap} {K:Nat→Prop} {N:Nat} {S:Nat→Prop} {κ:Kap} {T:Nat→AV} {L:Nat→Option Ent} {a:Act} {w:World}
theorem Good.del (h:Good w0 S0 κ0 K N S κ T L a w) (b:Nat):Good w0 S0 κ0 K N S κ (fun k=>(T k).kill b 4) (killL b L) a w:=by
 have hsome:∀ c,(killL b L c).isSome=true→(L c).isSome=true:=by
  intro c hc
  simp only [killL] at hc
  split at hc
  · cases hc
  · simpa using hc
 have hD:∀ c,(L c).isSome=true→c≠b→(killL b L c).isSome=true:=by
  intro c hc hne
  simp [killL,hne]
  exact hc
 exact {
  defers:=h.defers
  size:=h.size
  os:=h.os
  tape:=h.tape
  output:=h.output
  grow:=h.grow
  old:=h.old
  sup:=h.sup
  snew:=h.snew
  slt:=h.slt
  par:=h.par
  parK:=fun c hc hs=>h.parK c hc (hsome c hs)
  own:=fun c g cp hc hs=>h.own c g cp hc (hsome c hs)
  inj:=fun c c' g cp cp' h1 h2=>h.inj c c' g cp cp' (hsome c h1) (hsome c' h2)
  ents:=fun c ent hc=>by
   simp only [killL] at hc
   split at hc
   · cases hc
   · rename_i hne
     cases hl:L c with
     | none=>simp [hl] at hc
     | some e =>
       simp [hl] at hc
       subst hc
       exact ent_map (h.ents c e hl) (fun a x hx=>zpD hD 4 hx)
  slots:=fun k=>zpD hD 4 (h.slots k) }
end
def frzE (bs:List Nat) (L:Nat→Option Ent) (e:Ent):Ent:=if e.box then { e with es:=e.es.map fun cs=>cs.map (zcI bs L 4) } else e
def frzL (bs:List Nat) (L:Nat→Option Ent):Nat→Option Ent:=fun c=>if bs.contains c then none else (L c).map (frzE bs L)
theorem zoc (bs:List Nat) (L:Nat→Option Ent):∀ (t:Tab) (k:Nat),get (zm7 bs L t) k=zcI bs L 4 (get t k)
 | [],k=>rfl
 | (j,a) :: r,k=>by
   simp only [zm7,get]
   split
   · rfl
   · exact zoc bs L r k
theorem znF (bs:List Nat) (L0:Nat→Option Ent):∀ (m:Mem) (c:Nat),look (zk7 bs L0 m) c=if bs.contains c then none else (look m c).map (frzE bs L0)
 | [],c=>by simp [zk7,look]
 | (j,e) :: r,c=>by
   have ih:=znF bs L0 r c
   simp only [zk7,look] at *
   by_cases hj:bs.contains j=true
   · simp only [hj,if_true]
     rw [ih]
     by_cases hc:c=j
     · subst hc; simp only [hj,if_true]
     · simp [hc]
   · simp only [hj,if_false,look,Bool.false_eq_true]
     by_cases hc:c=j
     · subst hc
       simp only [hj,if_true,if_false,Bool.false_eq_true,Option.map_some,frzE]
     · simp only [hc,if_false]
       exact ih
section
variable {S S':Nat→Prop} {κ:Kap} {D D':Nat→Prop} {w:World}
theorem ids_D {L:Nat→Option Ent} (hL:∀ b ent,L b=some ent→EntAt S κ D w (κ b) ent):∀ (k:Nat) (a:AV) (x:Value),VRel S κ D w a x→∀ b∈a.ids L k,D b:=by
 intro k
 induction k with
 | zero=>intro a x _ b hb; simp [AV.ids] at hb
 | succ k ih =>
   intro a x h b hb
   have lists:∀ (cs:List AV) (vs:Array Value),vs.size=cs.length→(∀ (j:Nat) (c:AV) (x:Value),cs[j]?=some c→vs[j]?=some x→VRel S κ D w c x)→b∈cs.flatMap (AV.ids L k)→D b:=by
    intro cs vs hl hr hb
    obtain ⟨c,hc,hb⟩:=List.mem_flatMap.1 hb
    obtain ⟨j,hj⟩:=List.mem_iff_getElem?.1 hc
    have hlt:j < vs.size:=by have:=(List.getElem?_eq_some_iff.1 hj).1; omega
    exact ih c _ (hr j c _ hj (Array.getElem?_eq_getElem hlt)) b hb
   cases a with
   | agg cs =>
     obtain ⟨vs,rfl,hl,h1,hr⟩:=h.agg_inv
     exact lists cs vs hl hr hb
   | tup cs =>
     obtain ⟨vs,rfl,hl,hr⟩:=h.tup_inv
     exact lists cs vs hl hr hb
   | fn f cs =>
     obtain ⟨vs,rfl,hl,hr⟩:=h.fn_inv
     exact lists cs vs hl hr hb
   | row c z o n =>
     simp [AV.ids] at hb
     subst hb
     cases h with
     | c h=>cases h
     | row0 _ _ hd _=>exact hd
     | row _ _ _ _ _ _ _ _ hd=>exact hd
   | loc c z i o =>
     obtain ⟨g,cp,hd,hk,rfl⟩:=h.loc_inv
     simp only [AV.ids,List.mem_cons] at hb
     rcases hb with rfl | hb
     · exact hd
     · cases hl:L c with
       | none=>simp [hl] at hb
       | some ent =>
         simp only [hl] at hb
         split at hb
         · rename_i hbx
           split at hb
           · rename_i cs hi'
             obtain ⟨av,hav,hb⟩:=List.mem_flatMap.1 hb
             obtain ⟨j,hj⟩:=List.mem_iff_getElem?.1 hav
             rw [List.getElem?_drop] at hj
             have hent:=((hL c ent hl).1 (.inl hbx)).2
             rw [hk] at hent
             obtain ⟨_,_,_,_,_,_,hcell⟩:=hent
             obtain ⟨u,_,_,h3,_⟩:=hcell i (o+j) cs av hi' hj
             exact ih av u (h3 hbx) b hb
           · cases hb
         · cases hb
   | map c =>
     simp [AV.ids] at hb
     subst hb
     obtain ⟨g,cp,hd,hk,rfl⟩:=h.map_inv
     exact hd
   | _=>simp [AV.ids] at hb
theorem zxf {bs:List Nat} {L:Nat→Option Ent} (hL:∀ b ent,L b=some ent→EntAt S κ D w (κ b) ent) (hSS:∀ g,S g→S' g) (hbs:∀ b∈bs,D b→∀ g c,κ b=some (g,c)→S' g)
  (hD:∀ c,D c→bs.contains c=false→D' c):∀ (k:Nat) {a:AV} {x:Value},VRel S κ D w a x→VRel S' κ D' w (zcI bs L k a) x:=by
 intro k
 induction k with
 | zero=>intro a x _; exact .bot x
 | succ k ih =>
   intro a x h
   have lists:∀ (cs:List AV) (vs:Array Value),vs.size=cs.length→(∀ (j:Nat) (c:AV) (x:Value),cs[j]?=some c→vs[j]?=some x→VRel S κ D w c x) →
     vs.size=(cs.map (zcI bs L k)).length∧∀ (j:Nat) (c:AV) (x:Value),(cs.map (zcI bs L k))[j]?=some c→vs[j]?=some x→VRel S' κ D' w c x:=by
    intro cs vs hl hr
    refine ⟨by simpa using hl,fun j c x hj hx=>?_⟩
    rw [List.getElem?_map] at hj
    cases hc:cs[j]? with
    | none=>simp [hc] at hj
    | some c' =>
      simp [hc] at hj
      subst hj
      exact ih (hr j c' x hc hx)
   have snp:∀ {a:AV},VRel S κ D w a x→(∀ b∈a.ids L 5,bs.contains b=true)→VRel S' κ D' w ((snap L 5 a).getD .bot) x:=by
    intro a ha hall
    cases hs:snap L 5 a with
    | none=>exact .bot x
    | some a' =>
      refine .c (zmY hL hSS 5 ha hs (fun b hb g c hk=>?_))
      exact hbs b (by simpa using hall b hb) (ids_D hL 5 a x ha b hb) g c hk
   cases a with
   | bot=>exact .bot x
   | v y=>rw [h.v_inv]; exact .c (.v _)
   | sl z es=>exact .c (h.sl_inv.mono hSS (fun _ _=>rfl))
   | fp cs=>exact .c (h.fp_inv.mono hSS (fun _ _=>rfl))
   | agg cs =>
     obtain ⟨vs,rfl,hl,h1,hr⟩:=h.agg_inv
     obtain ⟨q1,q2⟩:=lists cs vs hl hr
     exact .agg _ vs q1 h1 q2
   | tup cs =>
     obtain ⟨vs,rfl,hl,hr⟩:=h.tup_inv
     obtain ⟨q1,q2⟩:=lists cs vs hl hr
     exact .tup _ vs q1 q2
   | fn f cs =>
     obtain ⟨vs,rfl,hl,hr⟩:=h.fn_inv
     obtain ⟨q1,q2⟩:=lists cs vs hl hr
     exact .fn f _ vs q1 q2
   | loc c z i o =>
     simp only [zcI]
     split
     · split
       · rename_i hall
         exact snp h (fun b hb=>by have:=List.all_eq_true.1 hall b hb; exact this)
       · exact .bot _
     · rename_i hne
       obtain ⟨g,cp,hd,hk,rfl⟩:=h.loc_inv
       exact .loc c z i o g cp (hD c hd (by simpa using hne)) hk
   | row c z o n =>
     simp only [zcI]
     split
     · rename_i hin
       exact snp h (fun b hb=>by simp [AV.ids] at hb; rw [hb]; exact hin)
     · rename_i hne
       cases h with
       | c h=>cases h
       | row0 _ _ hd hk=>exact .row0 c z (hD c hd (by simpa using hne)) hk
       | row _ _ _ _ g cp off' cap hd hk hn ho hc=>exact .row c z o n g cp off' cap (hD c hd (by simpa using hne)) hk hn ho hc
   | map c =>
     simp only [zcI]
     split
     · rename_i hin
       exact snp h (fun b hb=>by simp [AV.ids] at hb; rw [hb]; exact hin)
     · rename_i hne
       obtain ⟨g,cp,hd,hk,rfl⟩:=h.map_inv
       exact .map c g cp (hD c hd (by simpa using hne)) hk
   | mp es=>exact .c (h.mp_inv.mono hSS (fun _ _=>rfl))
   | fa z es=>exact .c (h.fa_inv.mono hSS (fun _ _=>rfl))
   | new=>exact .bot x
   | newp=>exact .bot x
   | newm=>exact .bot x
end
end Go.Ab
