/- Operations that only read: what the abstract operation says is what the model's operation gives. -/
import Derived.Test.YtbhkcgaanaelfaaGreatAbRel
namespace Go.Ab
open Go.RowKit
def CellAt (S:Nat→Prop) (κ:Kap) (D:Nat→Prop) (w:World) (kb:Option (Nat×Nat)) (ent:Ent):Prop:=
 (∀ cs∈ent.es,cs.length=ent.z) ∧
 match kb with
 | none=>ent.es=[]∧ent.box=false
 | some (g,c)=>∃ cells:Array Value,w.heap[g]?=some (.cells cells ent.e (0,0))∧cells.size=c*ent.z∧ent.es.length≤c∧c≤maxLen∧¬ S g ∧
   ∀ (i j:Nat) (cs:List AV) (a:AV),ent.es[i]?=some cs→cs[j]?=some a→∃ u,cells[i*ent.z+j]?=some u∧u.oneCell'=true ∧
     (ent.box=true→VRel S κ D w a u)∧(ent.box=false→CRel S w a u)
def MapAt (S:Nat→Prop) (w:World) (kb:Option (Nat×Nat)) (es:List (List AV)):Prop:=
 ∃ g c en clock,kb=some (g,c)∧¬ S g∧w.heap[g]?=some (.map en clock)∧en.size=es.length∧(∀ (i:Nat) (e:MapEntry),en[i]?=some e→e.born < clock) ∧
   (∀ (i j:Nat) (e f:MapEntry),i < j→en[i]?=some e→en[j]?=some f→e.born < f.born)∧(∀ cs∈es,∃ k v,cs=[k,v]) ∧
   ∀ (i:Nat) (k v:AV) (e:MapEntry),es[i]?=some [k,v]→en[i]?=some e→CRel S w k e.key∧CRel S w v e.val
def Ent.cell (ent:Ent):Prop:=ent.box=true∨0 < ent.z
def EntAt (S:Nat→Prop) (κ:Kap) (D:Nat→Prop) (w:World) (kb:Option (Nat×Nat)) (ent:Ent):Prop:=
 (ent.cell→CellAt S κ D w kb ent)∧(¬ ent.cell→MapAt S w kb ent.es)
theorem EntAt.of {S:Nat→Prop} {κ:Kap} {D:Nat→Prop} {w:World} {kb:Option (Nat×Nat)} {ent:Ent} (hc:ent.cell) (h:CellAt S κ D w kb ent):EntAt S κ D w kb ent:=⟨fun _=>h,fun q=>absurd hc q⟩
theorem EntAt.ofMap {S:Nat→Prop} {κ:Kap} {D:Nat→Prop} {w:World} {kb:Option (Nat×Nat)} {ent:Ent} (h1:ent.z=0) (h2:ent.box=false) (h:MapAt S w kb ent.es):EntAt S κ D w kb ent:=
 ⟨fun q=>by unfold Ent.cell at q; rw [h1,h2] at q; simp at q,fun _=>h⟩
theorem zoH {ent:Ent} (h1:ent.z=0) (h2:ent.box=false):¬ ent.cell:=by unfold Ent.cell; rw [h1,h2]; simp
theorem MapAt.mono {S S':Nat→Prop} {w w':World} {kb:Option (Nat×Nat)} {es:List (List AV)} (h:MapAt S w kb es) (hS:∀ g,S g→S' g) (hw:∀ g,S g→w'.heap[g]?=w.heap[g]?)
  (hb:∀ g c,kb=some (g,c)→w'.heap[g]?=w.heap[g]?∧¬ S' g):MapAt S' w' kb es:=by
 obtain ⟨g,c,en,clock,hk,hn,hg,hl,h1,h2,h3,h4⟩:=h
 obtain ⟨e1,e2⟩:=hb g c hk
 exact ⟨g,c,en,clock,hk,e2,e1.trans hg,hl,h1,h2,h3,fun i k v e hi he=>⟨(h4 i k v e hi he).1.mono hS hw,(h4 i k v e hi he).2.mono hS hw⟩⟩
theorem CellAt.mono {S S':Nat→Prop} {κ κ':Kap} {D D':Nat→Prop} {w w':World} {kb:Option (Nat×Nat)} {ent:Ent} (h:CellAt S κ D w kb ent)
  (hS:∀ g,S g→S' g) (hw:∀ g,S g→w'.heap[g]?=w.heap[g]?) (hD:∀ b,D b→D' b) (hκ:∀ b,D b→κ' b=κ b)
  (hb:∀ g c,kb=some (g,c)→w'.heap[g]?=w.heap[g]?∧¬ S' g):CellAt S' κ' D' w' kb ent:=by
 refine ⟨h.1,?_⟩
 have h2:=h.2
 cases kb with
 | none=>exact h2
 | some gc =>
   obtain ⟨g,c⟩:=gc
   obtain ⟨cells,h1,h3,h4,h5,_,h7⟩:=h2
   obtain ⟨e1,e2⟩:=hb g c rfl
   refine ⟨cells,e1.trans h1,h3,h4,h5,e2,fun i j cs a hi hj=>?_⟩
   obtain ⟨u,q1,q2,q3,q4⟩:=h7 i j cs a hi hj
   exact ⟨u,q1,q2,fun hb=>(q3 hb).mono hS hw hD hκ,fun hb=>(q4 hb).mono hS hw⟩
theorem EntAt.mono {S S':Nat→Prop} {κ κ':Kap} {D D':Nat→Prop} {w w':World} {kb:Option (Nat×Nat)} {ent:Ent} (h:EntAt S κ D w kb ent)
  (hS:∀ g,S g→S' g) (hw:∀ g,S g→w'.heap[g]?=w.heap[g]?) (hD:∀ b,D b→D' b) (hκ:∀ b,D b→κ' b=κ b)
  (hb:∀ g c,kb=some (g,c)→w'.heap[g]?=w.heap[g]?∧¬ S' g):EntAt S' κ' D' w' kb ent:=
 ⟨fun q=>(h.1 q).mono hS hw hD hκ hb,fun q=>(h.2 q).mono hS hw hb⟩
theorem EntAt.notS {S:Nat→Prop} {κ:Kap} {D:Nat→Prop} {w:World} {g c:Nat} {ent:Ent} (h:EntAt S κ D w (some (g,c)) ent):¬ S g:=by
 by_cases hc:ent.cell
 · obtain ⟨_,cells,_,_,_,_,hn,_⟩:=h.1 hc
   exact hn
 · obtain ⟨g',c',en,clock,e,hn,_⟩:=h.2 hc
   cases e
   exact hn
theorem EntAt.lt {S:Nat→Prop} {κ:Kap} {D:Nat→Prop} {w:World} {g c:Nat} {ent:Ent} (h:EntAt S κ D w (some (g,c)) ent):g < w.heap.size:=by
 by_cases hc:ent.cell
 · obtain ⟨_,cells,hg,_⟩:=h.1 hc
   exact (Array.getElem?_eq_some_iff.1 hg).1
 · obtain ⟨g',c',en,clock,e,hn,hg,_⟩:=h.2 hc
   cases e
   exact (Array.getElem?_eq_some_iff.1 hg).1
theorem EntAt.handed {S S':Nat→Prop} {κ κ':Kap} {D D':Nat→Prop} {w:World} {kb:Option (Nat×Nat)} {ent:Ent} (h:EntAt S κ D w kb ent) (hS:∀ g,S g→S' g)
  (hn:∀ g c,kb=some (g,c)→¬ S' g) (hcl:ent.box=true→∀ cs∈ent.es,∀ a∈cs,a.isC 4=true):EntAt S' κ' D' w kb ent:=by
 refine ⟨fun hc=>?_,fun hc=>?_⟩
 · obtain ⟨q1,q2⟩:=h.1 hc
   refine ⟨q1,?_⟩
   cases kb with
   | none=>exact q2
   | some gc =>
     obtain ⟨g,c⟩:=gc
     obtain ⟨cells,c1,c2,c3,c4,c5,c6⟩:=q2
     refine ⟨cells,c1,c2,c3,c4,hn g c rfl,fun i j cs a hi hj=>?_⟩
     obtain ⟨u,u1,u2,u3,u4⟩:=c6 i j cs a hi hj
     exact ⟨u,u1,u2,fun hbx=>.c ((zkY 4 (hcl hbx cs (List.mem_of_getElem? hi) a (List.mem_of_getElem? hj)) (u3 hbx)).mono hS (fun _ _=>rfl)),fun hbx=>(u4 hbx).mono hS (fun _ _=>rfl)⟩
 · exact (h.2 hc).mono hS (fun _ _=>rfl) (fun g c hk=>⟨rfl,hn g c hk⟩)
section
variable {P:Program} {S:Nat→Prop} {κ:Kap} {D:Nat→Prop} {w:World}
theorem zjf {t:TypeId} {b:Bool} (h:isAggB P t=some b):(isAgg t).run P w=.ok b w:=by
 unfold isAggB at h
 cases hu:P.underlying t with
 | none=>simp [hu] at h
 | some d =>
   simp only [hu] at h
   simp only [isAgg,Sem.run_bind,run_underlying hu,Result.andThen_ok]
   cases d <;> simp at h <;> subst h <;> rfl
theorem zbs {t:TypeId} {n:Nat} (h:szB P t=some n):(sizeOf t).run P w=.ok n w:=by
 unfold szB at h
 cases hi:P.info? t with
 | none=>simp [hi] at h
 | some i=>simp [hi] at h; subst h; simp [sizeOf,typeInfo,hi]
theorem zra {u:Nat→Value} {n j:Nat} {x:Value} (h:((List.range n).map u)[j]?=some x):j < n∧u j=x:=by
 rw [List.getElem?_map] at h
 by_cases hj:j < n
 · rw [List.getElem?_range hj] at h
   exact ⟨hj,by simpa using h⟩
 · rw [List.getElem?_eq_none (by simpa using hj)] at h
   cases h
theorem zp2 {t:TypeId} {a:Addr} {cs:List AV} {av:AV} {u:Nat→Value} (R:AV→Value→Prop)
  (hagg:∀ (l:List AV) (vs:Array Value),vs.size=l.length→(∀ x∈vs,x.oneCell'=true)→(∀ (j:Nat) (c:AV) (x:Value),l[j]?=some c→vs[j]?=some x→R c x)→R (.agg l) (.agg vs))
  (hc:∀ (j:Nat) (c:AV),cs[j]?=some c→w.cell? (a.add j)=some (u j)∧(u j).oneCell'=true∧R c (u j))
  (h:readAt P t cs=some av):∃ x,(loadVar t a).run P w=.ok x w∧R av x:=by
 unfold readAt at h
 cases hb:isAggB P t with
 | none=>simp [hb] at h
 | some b =>
   cases b with
   | false =>
     simp only [hb] at h
     obtain ⟨h1,_,h3⟩:=hc 0 av h
     have ha:a.add 0=a:=by simp [Addr.add]
     rw [ha] at h1
     refine ⟨u 0,?_,h3⟩
     simp [loadVar,zjf hb,h1]
   | true =>
     simp only [hb] at h
     cases hs:szB P t with
     | none=>simp [hs] at h
     | some n =>
       simp only [hs] at h
       split at h
       · rename_i hle
         injection h with h
         subst h
         have hl:=run_loadCells_list (P:=P) w a ((List.range n).map u) (fun j x hx=>by
          obtain ⟨hj,rfl⟩:=zra hx
          exact (hc j _ (List.getElem?_eq_getElem (by omega))).1)
         simp only [List.length_map,List.length_range] at hl
         refine ⟨.agg ((List.range n).map u).toArray,?_,?_⟩
         · simp [loadVar,zjf hb,zbs hs,hl]
         · refine hagg _ _ (by simp; omega) ?_ ?_
           · intro x hx
             simp at hx
             obtain ⟨j,hj,rfl⟩:=hx
             exact (hc j _ (List.getElem?_eq_getElem (by omega))).2.1
           · intro j c x hj hx
             obtain ⟨hjn,rfl⟩:=zra (by simpa only [List.getElem?_toArray] using hx)
             rw [List.getElem?_take,if_pos hjn] at hj
             exact (hc j c hj).2.2
       · cases h
theorem VRel.agg_mk (l:List AV) (vs:Array Value) (h:vs.size=l.length) (h1:∀ x∈vs,x.oneCell'=true)
  (hr:∀ (j:Nat) (c:AV) (x:Value),l[j]?=some c→vs[j]?=some x→VRel S κ D w c x):VRel S κ D w (.agg l) (.agg vs):=.agg l vs h h1 hr
theorem zss {L:Nat→Option Ent} {t:TypeId} {a:AV} {r:Res} {x:Value} (h:aLoad P L t a=some r) (hx:VRel S κ D w a x)
  (hL:∀ b ent,L b=some ent→EntAt S κ D w (κ b) ent) :
  ∃ y,(Instr.loadAt t x).run P w=.ok y w∧VRel S κ D w r.val y∧r.set=[]∧r.kill=none∧r.frz=[]:=by
 cases a <;> simp [aLoad] at h
 case fp cs =>
  have hf:=hx.fp_inv
  cases hf with
  | fp _ ad u hS hc hr =>
    cases hq:readAt P t cs with
    | none=>simp [hq] at h
    | some av =>
      simp only [hq,Option.some.injEq] at h
      subst h
      obtain ⟨y,h1,h2⟩:=zp2 (P:=P) (w:=w) (VRel S κ D w) VRel.agg_mk (a:=ad) (u:=u) (fun j c hj=>⟨(hc j c hj).1,(hc j c hj).2,.c (hr j c hj)⟩) hq
      exact ⟨y,by simpa [Instr.loadAt,Instr.sureAddr] using h1,h2,rfl,rfl,rfl⟩
 case loc b z i o =>
  obtain ⟨g,c,hd,hk,rfl⟩:=hx.loc_inv
  cases hl:L b with
  | none=>simp [hl] at h
  | some ent =>
    simp only [hl] at h
    split at h
    · rename_i hzc
      obtain ⟨hz,hcl⟩:=hzc
      cases hi:ent.es[i]? with
      | none=>simp [hi] at h
      | some cs =>
        simp only [hi] at h
        cases hq:readAt P t (cs.drop o) with
        | none=>simp [hq] at h
        | some av =>
          simp only [hq,Option.some.injEq] at h
          subst h
          obtain ⟨_,hent⟩:=(hL b ent hl).1 hcl
          rw [hk] at hent
          obtain ⟨cells,hc,_,_,_,_,hcell⟩:=hent
          have hcs:∀ (j:Nat) (c:AV),(cs.drop o)[j]?=some c→∃ u,w.cell? ((⟨g,i*z+o,none⟩:Addr).add j)=some u∧u.oneCell'=true∧VRel S κ D w c u:=by
           intro j c hj
           rw [List.getElem?_drop] at hj
           obtain ⟨u,h1,h2,h3,h4⟩:=hcell i (o+j) cs c hi hj
           refine ⟨u,?_,h2,?_⟩
           · have:(⟨g,i*z+o,none⟩:Addr).add j=⟨g,i*z+o+j,none⟩:=by unfold Addr.add; split <;> simp_all
             rw [this,cell_of_row w g _ cells ent.e (0,0) hc,← h1,hz]
             congr 1
             omega
           · cases hbx:ent.box with
             | true=>exact h3 hbx
             | false=>exact .c (h4 hbx)
          obtain ⟨y,h1,h2⟩:=zp2 (P:=P) (w:=w) (VRel S κ D w) VRel.agg_mk (a:=⟨g,i*z+o,none⟩)
           (u:=fun j=>(w.cell? ((⟨g,i*z+o,none⟩:Addr).add j)).getD undef) (fun j c hj=>by
            obtain ⟨u,h1,h2,h3⟩:=hcs j c hj
            simp only [h1,Option.getD_some]
            exact ⟨trivial,h2,h3⟩) hq
          exact ⟨y,by simpa [Instr.loadAt,Instr.sureAddr] using h1,h2,rfl,rfl,rfl⟩
    · cases h
theorem add_at (g n j:Nat):(⟨g,n,none⟩:Addr).add j=⟨g,n+j,none⟩:=by unfold Addr.add; split <;> simp_all
theorem fp_add {cs:List AV} {a:Addr} {n:Nat} (h:CRel S w (.fp cs) (.pointer (some a))):CRel S w (.fp (cs.drop n)) (.pointer (some (a.add n))):=by
 cases h with
 | fp _ _ u hS hc hr =>
   refine .fp _ _ (fun j=>u (n+j)) (by rw [zhH]; exact hS) (fun j c hj=>?_) (fun j c hj=>?_)
   · rw [List.getElem?_drop] at hj
     rw [Go.Deep.add_add]
     exact hc _ c hj
   · rw [List.getElem?_drop] at hj
     exact hr _ c hj
theorem fp_take {cs:List AV} {a:Addr} {n:Nat} (h:CRel S w (.fp cs) (.pointer (some a))):CRel S w (.fp (cs.take n)) (.pointer (some a)):=by
 cases h with
 | fp _ _ u hS hc hr =>
   refine .fp _ _ u hS (fun j c hj=>?_) (fun j c hj=>?_)
   · rw [List.getElem?_take] at hj
     split at hj
     · exact hc _ c hj
     · cases hj
   · rw [List.getElem?_take] at hj
     split at hj
     · exact hr _ c hj
     · cases hj
theorem zwT {s:TypeId} {f:Nat} {a:AV} {r:Res} {x:Value} (h:aField P s f a=some r) (hx:VRel S κ D w a x) :
  ∃ y,(Instr.fieldAt s x f).run P w=.ok y w∧VRel S κ D w r.val y∧r.set=[]∧r.kill=none∧r.frz=[]:=by
 unfold aField at h
 split at h
 · rename_i fields hu
   cases hf:fields[f]? with
   | none=>simp [hf] at h
   | some fd =>
     simp only [hf] at h
     split at h
     · rename_i n hn
       have hrun:∀ ad:Addr,(fieldPlace ad fd).run P w=.ok (ad.add fd.offset) w:=fun ad=>by simp [fieldPlace,zbs hn]
       cases a <;> simp at h
       case fp cs =>
        subst h
        have hf':=hx.fp_inv
        cases hf' with
        | fp _ ad u hS hc hr =>
          refine ⟨.pointer (some (ad.add fd.offset)),?_,.c (fp_add (CRel.fp cs ad u hS hc hr)),rfl,rfl,rfl⟩
          simp [Instr.fieldAt,run_underlying hu,hf,Instr.sureAddr,hrun]
       case loc b z i o =>
        subst h
        obtain ⟨g,c,hd,hk,rfl⟩:=hx.loc_inv
        refine ⟨.pointer (some ⟨g,i*z+(o+fd.offset),none⟩),?_,.loc b z i (o+fd.offset) g c hd hk,rfl,rfl,rfl⟩
        simp [Instr.fieldAt,run_underlying hu,hf,Instr.sureAddr,hrun,add_at,Nat.add_assoc]
     · cases h
 · cases h
theorem zw4 {t:TypeId} {a ix:AV} {r:Res} {x y:Value} (h:aIndex P t a ix=some r) (hx:VRel S κ D w a x) (hy:VRel S κ D w ix y) :
  ∃ q,(Instr.indexAt t x y).run P w=.ok q w∧VRel S κ D w r.val q∧r.set=[]∧r.kill=none∧r.frz=[]:=by
 unfold aIndex at h
 split at h
 · rename_i k n
   rw [hy.v_inv]
   split at h
   · rename_i e hu
     split at h
     · rename_i sz z es hs
       split at h
       · rename_i hz
         obtain ⟨rfl,hn⟩:=hz
         cases he:es[n.toNat]? with
         | none=>simp [he] at h
         | some cs =>
           simp only [he,Option.some.injEq] at h
           subst h
           have hf:=hx.sl_inv
           cases hf with
           | sl _ _ A len cap u hlen hcap hzz ha hr =>
             have hlt:n.toNat < es.length:=(List.getElem?_eq_some_iff.1 he).1
             rcases ha with h0 | ⟨ad,rfl,hS,hc⟩
             · rw [h0] at hlt; simp at hlt
             · refine ⟨.pointer (some (ad.add (n.toNat*z))),?_,.c (.fp cs _ (fun j=>u n.toNat j) (by rw [zhH]; exact hS) (fun j c hj=>?_) (fun j c hj=>hr _ j cs c he hj)),rfl,rfl,rfl⟩
               · have hb:0≤n∧n < (len:Int):=by omega
                 simp [Instr.indexAt,asIntOf,run_underlying hu,zbs hs,hb]
               · rw [Go.Deep.add_add]
                 exact hc _ j cs c he hj
       · cases h
     · rename_i sz b z off len hs
       split at h
       · rename_i hz
         obtain ⟨rfl,hn,hlt⟩:=hz
         injection h with h
         subst h
         cases hx with
         | c h=>cases h
         | row0 _ _ _ _=>simp at hlt; omega
         | row _ _ _ _ g c off' cap hd hk hnc ho hc =>
           have hoff:off'=off*z:=by
            rcases ho with h | ⟨h,_⟩
            · exact h
            · subst h; simp at hlt; omega
           subst hoff
           refine ⟨.pointer (some ⟨g,(off+n.toNat)*z+0,none⟩),?_,.loc b z (off+n.toNat) 0 g c hd hk,rfl,rfl,rfl⟩
           simp [Instr.indexAt,asIntOf,run_underlying hu,zbs hs,hn,hlt,add_at,Nat.add_mul]
       · cases h
     · cases h
   · rename_i len e hu
     split at h
     · rename_i hn
       split at h
       · rename_i sz cs hs
         injection h with h
         subst h
         have hf:=hx.fp_inv
         cases hf with
         | fp _ ad u hS hc hr =>
           refine ⟨.pointer (some (ad.add (n.toNat*sz))),?_,.c (fp_take (fp_add (CRel.fp cs ad u hS hc hr))),rfl,rfl,rfl⟩
           simp [Instr.indexAt,asIntOf,run_underlying hu,zbs hs,Instr.sureAddr,hn]
       · rename_i sz z es hs
         split at h
         case isFalse=>cases h
         rename_i hz
         subst hz
         cases he:es[n.toNat]? with
         | none=>simp [he] at h
         | some cs =>
           simp only [he,Option.some.injEq] at h
           subst h
           have hf:=hx.fa_inv
           cases hf with
           | fa _ _ ad u hzz hS hc hr =>
             refine ⟨.pointer (some (ad.add (n.toNat*z))),?_,.c (.fp cs _ (fun j=>u n.toNat j) (by rw [zhH]; exact hS) (fun j c hj=>?_) (fun j c hj=>hr _ j cs c he hj)),rfl,rfl,rfl⟩
             · simp [Instr.indexAt,asIntOf,run_underlying hu,zbs hs,Instr.sureAddr,hn]
             · rw [Go.Deep.add_add]
               exact hc _ j cs c he hj
       · rename_i sz b z i o hs
         obtain ⟨g,c,hd,hk,rfl⟩:=hx.loc_inv
         split at h
         · rename_i hz
           obtain ⟨rfl,rfl⟩:=hz
           injection h with h
           subst h
           refine ⟨.pointer (some ⟨g,(i+n.toNat)*z+0,none⟩),?_,.loc b z (i+n.toNat) 0 g c hd hk,rfl,rfl,rfl⟩
           simp [Instr.indexAt,asIntOf,run_underlying hu,zbs hs,Instr.sureAddr,hn,add_at,Nat.add_mul]
         · injection h with h
           subst h
           refine ⟨.pointer (some ⟨g,i*z+(o+n.toNat*sz),none⟩),?_,.loc b z i _ g c hd hk,rfl,rfl,rfl⟩
           simp [Instr.indexAt,asIntOf,run_underlying hu,zbs hs,Instr.sureAddr,hn,add_at,Nat.add_assoc]
       · cases h
     · cases h
   · cases h
 · cases h
theorem zix {d:Nat} {a:Option AV} {n:Nat} {x:Option Value} (h:natOf d a=some n) (hx:(a=none∧x=none)∨∃ b y,a=some b∧x=some y∧VRel S κ D w b y) :
  (a=none∧x=none∧n=d)∨∃ k,x=some (.int k n):=by
 rcases hx with ⟨rfl,rfl⟩ | ⟨b,y,rfl,rfl,hr⟩
 · simp [natOf] at h; exact .inl ⟨rfl,rfl,h.symm⟩
 · unfold natOf at h
   split at h
   · rename_i h'; cases h'
   · rename_i k m h'
     injection h' with h'
     subst h'
     split at h
     · rename_i hm
       injection h with h
       rw [hr.v_inv]
       refine .inr ⟨k,?_⟩
       rw [← h]
       congr 2
       omega
     · cases h
   · cases h
theorem zpN {len cap l h:Nat} {lo hi:Option Value} (hl:(lo=none∧l=0)∨∃ k,lo=some (.int k l)) (hh:(hi=none∧h=len)∨∃ k,hi=some (.int k h))
  (h1:l≤h) (h2:h≤len) (h3:len≤cap):(Instr.sliceBounds true len cap lo hi none).run P w=.ok (l,h,cap) w:=by
 have e1:∀ k,(Instr.sliceBound (.int k h) cap .sliceAcap).run P w=.ok h w:=fun k=>by
  simp [Instr.sliceBound,asIntOf]; omega
 have e2:∀ k,(Instr.sliceBound (.int k l) h .sliceB).run P w=.ok l w:=fun k=>by
  simp [Instr.sliceBound,asIntOf]; omega
 rcases hl with ⟨rfl,rfl⟩ | ⟨k,rfl⟩ <;> rcases hh with ⟨rfl,rfl⟩ | ⟨k',rfl⟩ <;> simp [Instr.sliceBounds,e1,e2]
theorem zxC {t:TypeId} {a:AV} {lo hi:Option AV} {lo' hi':Option Value} {r:Res} {x:Value} (h:aSlice P t a lo hi=some r) (hx:VRel S κ D w a x)
  (hlo:(lo=none∧lo'=none)∨∃ b y,lo=some b∧lo'=some y∧VRel S κ D w b y) (hhi:(hi=none∧hi'=none)∨∃ b y,hi=some b∧hi'=some y∧VRel S κ D w b y) :
  ∃ q,(Instr.sliceAt t x lo' hi' none).run P w=.ok q w∧VRel S κ D w r.val q∧r.set=[]∧r.kill=none∧r.frz=[]:=by
 unfold aSlice at h
 split at h
 · rename_i e hu
   split at h
   · rename_i sz z es hs
     split at h
     · rename_i l hh hl1 hh1
       split at h
       · rename_i hz
         obtain ⟨rfl,h1,h2⟩:=hz
         injection h with h
         subst h
         have hf:=hx.sl_inv
         cases hf with
         | sl _ _ A len cap u hlen hcap hzz ha hr =>
           have hb:=zpN (P:=P) (w:=w) (len:=len) (cap:=cap) (l:=l) (h:=hh) (lo:=lo') (hi:=hi')
            (by rcases zix hl1 hlo with ⟨_,a,b⟩ | ⟨k,a⟩; exact .inl ⟨a,b⟩; exact .inr ⟨k,a⟩)
            (by rcases zix hh1 hhi with ⟨_,a,b⟩ | ⟨k,a⟩; exact .inl ⟨a,by omega⟩; exact .inr ⟨k,a⟩) h1 (by omega) hcap
           refine ⟨.slice (if cap=l then A else A.map (·.add (l*z))) (hh - l) (cap - l),?_,.c ?_,rfl,rfl,rfl⟩
           · simp [Instr.sliceAt,run_underlying hu,Instr.slice,hb,zbs hs]
           · have hget:∀ (i:Nat) (cs:List AV),((es.take hh).drop l)[i]?=some cs→es[l+i]?=some cs:=by
              intro i cs hi
              rw [List.getElem?_drop,List.getElem?_take] at hi
              split at hi
              · exact hi
              · cases hi
             refine .sl z _ _ _ _ (fun i j=>u (l+i) j) (by simp; omega) (by omega) (fun cs hcs=>hzz cs ?_) ?_ (fun i j cs c hi hj=>hr _ j cs c (hget i cs hi) hj)
             · exact List.mem_of_mem_take (List.mem_of_mem_drop hcs)
             · by_cases he:(es.take hh).drop l=[]
               · exact .inl he
               · refine .inr ?_
                 rcases ha with h0 | ⟨ad,rfl,hS,hc⟩
                 · subst h0; simp at he
                 · have hlt:l < hh:=by
                    rcases Nat.lt_or_ge l hh with h' | h'
                    · exact h'
                    · exfalso; apply he; apply List.drop_eq_nil_of_le; simp; omega
                   refine ⟨ad.add (l*z),by rw [if_neg (by omega)]; rfl,by rw [zhH]; exact hS,fun i j cs c hi hj=>?_⟩
                   have:=hc (l+i) j cs c (hget i cs hi) hj
                   rw [Go.Deep.add_add]
                   rw [Nat.add_mul] at this
                   rw [← Nat.add_assoc]
                   exact this
       · cases h
     · cases h
   · rename_i sz b z off n hs
     split at h
     · rename_i l hh hl1 hh1
       split at h
       · rename_i hz
         obtain ⟨rfl,h1,h2⟩:=hz
         injection h with h
         subst h
         cases hx with
         | c h=>cases h
         | row0 _ _ hd hk =>
           obtain rfl:hh=0:=by omega
           obtain rfl:l=0:=by omega
           have hb:=zpN (P:=P) (w:=w) (len:=0) (cap:=0) (l:=0) (h:=0) (lo:=lo') (hi:=hi')
            (by rcases zix hl1 hlo with ⟨_,a,b⟩ | ⟨k,a⟩; exact .inl ⟨a,b⟩; exact .inr ⟨k,a⟩)
            (by rcases zix hh1 hhi with ⟨_,a,b⟩ | ⟨k,a⟩; exact .inl ⟨a,by omega⟩; exact .inr ⟨k,a⟩) (by omega) (by omega) (by omega)
           refine ⟨.slice none 0 0,?_,.row0 b z hd hk,rfl,rfl,rfl⟩
           simp [Instr.sliceAt,run_underlying hu,Instr.slice,hb,zbs hs]
         | row _ _ _ _ g c off' cap hd hk hnc ho hc =>
           have hb:=zpN (P:=P) (w:=w) (len:=n) (cap:=cap) (l:=l) (h:=hh) (lo:=lo') (hi:=hi')
            (by rcases zix hl1 hlo with ⟨_,a,b⟩ | ⟨k,a⟩; exact .inl ⟨a,b⟩; exact .inr ⟨k,a⟩)
            (by rcases zix hh1 hhi with ⟨_,a,b⟩ | ⟨k,a⟩; exact .inl ⟨a,by omega⟩; exact .inr ⟨k,a⟩) h1 (by omega) hnc
           by_cases hcl:cap=l
           · refine ⟨.slice (some ⟨g,off',none⟩) (hh - l) (cap - l),?_,.row b z (off+l) (hh - l) g c off' (cap - l) hd hk (by omega) ?_ ?_,rfl,rfl,rfl⟩
             · subst hcl
               simp [Instr.sliceAt,run_underlying hu,Instr.slice,hb,zbs hs]
             · by_cases h0:off+l=0
               · left
                 obtain rfl:off=0:=by omega
                 obtain rfl:l=0:=by omega
                 rcases ho with h | ⟨_,h⟩
                 · simpa using h
                 · exact absurd rfl h
               · exact .inr ⟨by omega,h0⟩
             · intro h0
               have:=hc (by omega)
               omega
           · refine ⟨.slice (some ⟨g,off'+l*z,none⟩) (hh - l) (cap - l),?_,.row b z (off+l) (hh - l) g c (off'+l*z) (cap - l) hd hk (by omega) ?_ ?_,rfl,rfl,rfl⟩
             · simp [Instr.sliceAt,run_underlying hu,Instr.slice,hb,zbs hs,hcl,add_at]
             · rcases ho with h | ⟨h,h'⟩
               · left; rw [h,Nat.add_mul]
               · exact .inr ⟨by omega,by omega⟩
             · intro h0
               have:=hc (by omega)
               omega
       · cases h
     · cases h
   · cases h
 · cases h
end
end Go.Ab
