/- What an abstract value says of a value in memory, and that it lasts. -/
import Derived.Test.YtbhkcgaanaelfaaGreatAbCore
import Derived.Laws.CopyRow
import Derived.Laws.MakeOwn
import Derived.Deep.Slices
namespace Go.Ab
open Go.RowKit
inductive CRel (S:Nat→Prop) (w:World):AV→Value→Prop
 | v (x:Value):CRel S w (.v x) x
 | sl (z:Nat) (es:List (List AV)) (A:Option Addr) (len cap:Nat) (u:Nat→Nat→Value) (hlen:len=es.length) (hcap:len≤cap)
   (hz:∀ cs∈es,cs.length=z) (ha:es=[]∨∃ a,A=some a∧S a.block∧∀ (i j:Nat) (cs:List AV) (c:AV),es[i]?=some cs→cs[j]?=some c→w.cell? (a.add (i*z+j))=some (u i j)∧(u i j).oneCell'=true)
   (hr:∀ (i j:Nat) (cs:List AV) (c:AV),es[i]?=some cs→cs[j]?=some c→CRel S w c (u i j)):CRel S w (.sl z es) (.slice A len cap)
 | agg (cs:List AV) (vs:Array Value) (hlen:vs.size=cs.length) (h1:∀ x∈vs,x.oneCell'=true)
   (hr:∀ (j:Nat) (c:AV) (x:Value),cs[j]?=some c→vs[j]?=some x→CRel S w c x):CRel S w (.agg cs) (.agg vs)
 | tup (cs:List AV) (vs:Array Value) (hlen:vs.size=cs.length)
   (hr:∀ (j:Nat) (c:AV) (x:Value),cs[j]?=some c→vs[j]?=some x→CRel S w c x):CRel S w (.tup cs) (.tuple vs)
 | fp (cs:List AV) (a:Addr) (u:Nat→Value) (hS:S a.block) (hc:∀ (j:Nat) (c:AV),cs[j]?=some c→w.cell? (a.add j)=some (u j)∧(u j).oneCell'=true)
   (hr:∀ (j:Nat) (c:AV),cs[j]?=some c→CRel S w c (u j)):CRel S w (.fp cs) (.pointer (some a))
 | fn (f:FuncId) (cs:List AV) (vs:Array Value) (hlen:vs.size=cs.length)
   (hr:∀ (j:Nat) (c:AV) (x:Value),cs[j]?=some c→vs[j]?=some x→CRel S w c x):CRel S w (.fn f cs) (.func (.func f) #[] vs)
 | fa (z:Nat) (es:List (List AV)) (a:Addr) (u:Nat→Nat→Value) (hz:∀ cs∈es,cs.length=z) (hS:S a.block)
   (hc:∀ (i j:Nat) (cs:List AV) (c:AV),es[i]?=some cs→cs[j]?=some c→w.cell? (a.add (i*z+j))=some (u i j)∧(u i j).oneCell'=true)
   (hr:∀ (i j:Nat) (cs:List AV) (c:AV),es[i]?=some cs→cs[j]?=some c→CRel S w c (u i j)):CRel S w (.fa z es) (.pointer (some a))
 | mp (es:List (List AV)) (g:Nat) (en:Array MapEntry) (clock:Nat) (hS:S g) (hg:w.heap[g]?=some (.map en clock)) (hlen:en.size=es.length)
   (hb:∀ (i:Nat) (e:MapEntry),en[i]?=some e→e.born < clock) (hi:∀ (i j:Nat) (e f:MapEntry),i < j→en[i]?=some e→en[j]?=some f→e.born < f.born)
   (h2:∀ cs∈es,∃ k v,cs=[k,v])
   (hk:∀ (i:Nat) (k v:AV) (e:MapEntry),es[i]?=some [k,v]→en[i]?=some e→CRel S w k e.key)
   (hv:∀ (i:Nat) (k v:AV) (e:MapEntry),es[i]?=some [k,v]→en[i]?=some e→CRel S w v e.val):CRel S w (.mp es) (.map (some g))
abbrev Kap:=Nat→Option (Nat×Nat)
inductive VRel (S:Nat→Prop) (κ:Kap) (D:Nat→Prop) (w:World):AV→Value→Prop
 | bot (x:Value):VRel S κ D w .bot x
 | c {a:AV} {x:Value} (h:CRel S w a x):VRel S κ D w a x
 | loc (b z i o g c:Nat) (hd:D b) (hk:κ b=some (g,c)):VRel S κ D w (.loc b z i o) (.pointer (some ⟨g,i*z+o,none⟩))
 | row0 (b z:Nat) (hd:D b) (hk:κ b=none):VRel S κ D w (.row b z 0 0) (.slice none 0 0)
 | row (b z off n g c off' cap:Nat) (hd:D b) (hk:κ b=some (g,c)) (hn:n≤cap) (ho:off'=off*z∨(n=0∧off≠0)) (hc:off=0→cap=c) :
   VRel S κ D w (.row b z off n) (.slice (some ⟨g,off',none⟩) n cap)
 | map (b g c:Nat) (hd:D b) (hk:κ b=some (g,c)):VRel S κ D w (.map b) (.map (some g))
 | agg (cs:List AV) (vs:Array Value) (hlen:vs.size=cs.length) (h1:∀ x∈vs,x.oneCell'=true)
   (hr:∀ (j:Nat) (c:AV) (x:Value),cs[j]?=some c→vs[j]?=some x→VRel S κ D w c x):VRel S κ D w (.agg cs) (.agg vs)
 | tup (cs:List AV) (vs:Array Value) (hlen:vs.size=cs.length)
   (hr:∀ (j:Nat) (c:AV) (x:Value),cs[j]?=some c→vs[j]?=some x→VRel S κ D w c x):VRel S κ D w (.tup cs) (.tuple vs)
 | fn (f:FuncId) (cs:List AV) (vs:Array Value) (hlen:vs.size=cs.length)
   (hr:∀ (j:Nat) (c:AV) (x:Value),cs[j]?=some c→vs[j]?=some x→VRel S κ D w c x):VRel S κ D w (.fn f cs) (.func (.func f) #[] vs)
theorem zhH (a:Addr) (n:Nat):(a.add n).block=a.block:=by unfold Addr.add; split <;> rfl
theorem CRel.mono {S S':Nat→Prop} {w w':World} (hS:∀ g,S g→S' g) (hw:∀ g,S g→w'.heap[g]?=w.heap[g]?) {a:AV} {x:Value} (h:CRel S w a x):CRel S' w' a x:=by
 have hcell:∀ p:Addr,S p.block→w'.cell? p=w.cell? p:=fun p hp=>World.cell?_of_block (hw _ hp)
 induction h with
 | v x=>exact .v x
 | sl z es A len cap u hlen hcap hz ha hr ih =>
   refine .sl z es A len cap u hlen hcap hz ?_ ih
   rcases ha with h0 | ⟨a,hA,hs,hc⟩
   · exact .inl h0
   · refine .inr ⟨a,hA,hS _ hs,fun i j cs c h1 h2=>?_⟩
     rw [hcell _ (by rw [zhH]; exact hs)]
     exact hc i j cs c h1 h2
 | agg cs vs hlen h1 hr ih=>exact .agg cs vs hlen h1 ih
 | tup cs vs hlen hr ih=>exact .tup cs vs hlen ih
 | fp cs a u hs hc hr ih =>
   refine .fp cs a u (hS _ hs) (fun j c h=>?_) ih
   rw [hcell _ (by rw [zhH]; exact hs)]
   exact hc j c h
 | fn f cs vs hlen hr ih=>exact .fn f cs vs hlen ih
 | fa z es a u hz hs hc hr ih =>
   refine .fa z es a u hz (hS _ hs) (fun i j cs c h1 h2=>?_) ih
   rw [hcell _ (by rw [zhH]; exact hs)]
   exact hc i j cs c h1 h2
 | mp es g en clock hs hg hlen hb hi h2 hk hv ihk ihv=>exact .mp es g en clock (hS _ hs) ((hw _ hs).trans hg) hlen hb hi h2 ihk ihv
theorem VRel.mono {S S':Nat→Prop} {κ κ':Kap} {D D':Nat→Prop} {w w':World} (hS:∀ g,S g→S' g) (hw:∀ g,S g→w'.heap[g]?=w.heap[g]?)
  (hD:∀ b,D b→D' b) (hκ:∀ b,D b→κ' b=κ b) {a:AV} {x:Value} (h:VRel S κ D w a x):VRel S' κ' D' w' a x:=by
 induction h with
 | bot x=>exact .bot x
 | c h=>exact .c (h.mono hS hw)
 | loc b z i o g c hd hk=>exact .loc b z i o g c (hD _ hd) ((hκ _ hd).trans hk)
 | row0 b z hd hk=>exact .row0 b z (hD _ hd) ((hκ _ hd).trans hk)
 | row b z off n g c off' cap hd hk hn ho hc=>exact .row b z off n g c off' cap (hD _ hd) ((hκ _ hd).trans hk) hn ho hc
 | map b g c hd hk=>exact .map b g c (hD _ hd) ((hκ _ hd).trans hk)
 | agg cs vs hlen h1 hr ih=>exact .agg cs vs hlen h1 ih
 | tup cs vs hlen hr ih=>exact .tup cs vs hlen ih
 | fn f cs vs hlen hr ih=>exact .fn f cs vs hlen ih
section inv
variable {S:Nat→Prop} {κ:Kap} {D:Nat→Prop} {w:World}
theorem VRel.v_inv {x y:Value} (h:VRel S κ D w (.v x) y):y=x:=by
 cases h with
 | c h=>cases h; rfl
theorem VRel.agg_inv {cs:List AV} {y:Value} (h:VRel S κ D w (.agg cs) y) :
  ∃ vs,y=.agg vs∧vs.size=cs.length∧(∀ x∈vs,x.oneCell'=true)∧∀ (j:Nat) (c:AV) (x:Value),cs[j]?=some c→vs[j]?=some x→VRel S κ D w c x:=by
 cases h with
 | c h=>cases h with | agg _ vs hlen h1 hr=>exact ⟨vs,rfl,hlen,h1,fun j c x a b=>.c (hr j c x a b)⟩
 | agg _ vs hlen h1 hr=>exact ⟨vs,rfl,hlen,h1,hr⟩
theorem VRel.tup_inv {cs:List AV} {y:Value} (h:VRel S κ D w (.tup cs) y) :
  ∃ vs,y=.tuple vs∧vs.size=cs.length∧∀ (j:Nat) (c:AV) (x:Value),cs[j]?=some c→vs[j]?=some x→VRel S κ D w c x:=by
 cases h with
 | c h=>cases h with | tup _ vs hlen hr=>exact ⟨vs,rfl,hlen,fun j c x a b=>.c (hr j c x a b)⟩
 | tup _ vs hlen hr=>exact ⟨vs,rfl,hlen,hr⟩
theorem VRel.fn_inv {f:FuncId} {cs:List AV} {y:Value} (h:VRel S κ D w (.fn f cs) y) :
  ∃ vs,y=.func (.func f) #[] vs∧vs.size=cs.length∧∀ (j:Nat) (c:AV) (x:Value),cs[j]?=some c→vs[j]?=some x→VRel S κ D w c x:=by
 cases h with
 | c h=>cases h with | fn _ _ vs hlen hr=>exact ⟨vs,rfl,hlen,fun j c x a b=>.c (hr j c x a b)⟩
 | fn _ _ vs hlen hr=>exact ⟨vs,rfl,hlen,hr⟩
theorem VRel.sl_inv {z:Nat} {es:List (List AV)} {y:Value} (h:VRel S κ D w (.sl z es) y):CRel S w (.sl z es) y:=by
 cases h with
 | c h=>exact h
theorem VRel.fp_inv {cs:List AV} {y:Value} (h:VRel S κ D w (.fp cs) y):CRel S w (.fp cs) y:=by
 cases h with
 | c h=>exact h
theorem VRel.loc_inv {b z i o:Nat} {y:Value} (h:VRel S κ D w (.loc b z i o) y):∃ g c,D b∧κ b=some (g,c)∧y=.pointer (some ⟨g,i*z+o,none⟩):=by
 cases h with
 | c h=>cases h
 | loc _ _ _ _ g c hd hk=>exact ⟨g,c,hd,hk,rfl⟩
theorem VRel.fa_inv {z:Nat} {es:List (List AV)} {y:Value} (h:VRel S κ D w (.fa z es) y):CRel S w (.fa z es) y:=by
 cases h with
 | c h=>exact h
theorem VRel.mp_inv {es:List (List AV)} {y:Value} (h:VRel S κ D w (.mp es) y):CRel S w (.mp es) y:=by
 cases h with
 | c h=>exact h
theorem VRel.map_inv {b:Nat} {y:Value} (h:VRel S κ D w (.map b) y):∃ g c,D b∧κ b=some (g,c)∧y=.map (some g):=by
 cases h with
 | c h=>cases h
 | map _ g c hd hk=>exact ⟨g,c,hd,hk,rfl⟩
theorem zpV {a:AV} {x y:Value} (h:a.scal=some x) (hr:VRel S κ D w a y):y=x:=by
 cases a <;> simp [AV.scal] at h
 subst h
 exact hr.v_inv
theorem zhI {α β:Type} {f:α→Option β}:∀ {l:List α} {r:List β},mapO f l=some r→r.length=l.length∧∀ (j:Nat) (a:α),l[j]?=some a→∃ b,r[j]?=some b∧f a=some b
 | [],r,h=>by simp [mapO] at h; subst h; simp
 | a :: l,r,h=>by
   simp only [mapO] at h
   cases hf:f a with
   | none=>simp [hf] at h
   | some b =>
     simp only [hf] at h
     cases hm:mapO f l with
     | none=>simp [hm] at h
     | some l' =>
       simp only [hm,Option.some.injEq] at h
       subst h
       obtain ⟨h1,h2⟩:=zhI hm
       refine ⟨by simp [h1],fun j x hj=>?_⟩
       cases j with
       | zero=>simp at hj; subst hj; exact ⟨b,rfl,hf⟩
       | succ j=>simpa using h2 j x (by simpa using hj)
theorem zsh {a:AV} {x y:Value} (h:a.toVal=some x) (hr:VRel S κ D w a y):y=x:=by
 cases a <;> simp [AV.toVal] at h
 case v=>subst h; exact hr.v_inv
 case agg cs =>
  cases hm:mapO AV.scal cs with
  | none=>simp [hm] at h
  | some l =>
    simp only [hm,Option.some.injEq] at h
    subst h
    obtain ⟨vs,rfl,hlen,_,hp⟩:=hr.agg_inv
    obtain ⟨hl,hs⟩:=zhI hm
    congr 1
    apply Array.ext_getElem?
    intro j
    cases hj:cs[j]? with
    | none =>
      have:cs.length≤j:=by simpa using hj
      rw [Array.getElem?_eq_none (by omega)]
      simp; omega
    | some c =>
      obtain ⟨b,hb,hc⟩:=hs j c hj
      have hlt:j < vs.size:=by have:=(List.getElem?_eq_some_iff.1 hj).1; omega
      have hv:vs[j]?=some vs[j]:=Array.getElem?_eq_getElem hlt
      rw [hv]
      have:=zpV hc (hp j c _ hj hv)
      simp [hb,this]
 case fn f cs =>
  cases cs with
  | nil =>
    simp at h
    subst h
    obtain ⟨vs,rfl,hlen,_⟩:=hr.fn_inv
    have:vs=#[]:=by apply Array.eq_empty_of_size_eq_zero; simpa using hlen
    rw [this]
  | cons _ _=>simp at h
theorem zy2 {x:Value} {a:AV} (h:ofVal x=some a):CRel S w a x:=by
 unfold ofVal at h
 split at h
 · split at h <;> simp at h
   subst h
   refine .tup _ _ (by simp) fun j c y hc hy=>?_
   simp at hc
   obtain ⟨q,hq,rfl⟩:=hc
   rw [hq] at hy
   injection hy with hy
   subst hy
   exact .v _
 · split at h <;> simp at h
   subst h
   exact .v _
theorem zmv {α:Type} (P:Program):∀ (s:Sem α) (x:α),zbf P s=some x→∀ w,s.run P w=.ok x w
 | .pure a,x,h,w=>by simp [zbf] at h; subst h; rfl
 | .program k,x,h,w=>by simp only [zbf] at h; exact zmv P (k P) x h w
 | .mark m k,x,h,w=>by simp only [zbf] at h; exact zmv P k x h w
 | .load ..,x,h,w=>by simp [zbf] at h
 | .store ..,x,h,w=>by simp [zbf] at h
 | .new ..,x,h,w=>by simp [zbf] at h
 | .shape ..,x,h,w=>by simp [zbf] at h
 | .freeze ..,x,h,w=>by simp [zbf] at h
 | .frozen ..,x,h,w=>by simp [zbf] at h
 | .getObj ..,x,h,w=>by simp [zbf] at h
 | .setObj ..,x,h,w=>by simp [zbf] at h
 | .choose ..,x,h,w=>by simp [zbf] at h
 | .sys ..,x,h,w=>by simp [zbf] at h
 | .halt ..,x,h,w=>by simp [zbf] at h
theorem zeC {α:Type} {f:α→Bool}:∀ {l:List α},allL f l=true→∀ a∈l,f a=true
 | [],_,a,h=>by cases h
 | b :: l,h,a,hm=>by
   simp only [allL,Bool.and_eq_true] at h
   cases List.mem_cons.1 hm with
   | inl e=>subst e; exact h.1
   | inr e=>exact zeC h.2 a e
theorem one_sound {a:AV} {x:Value} (h:a.one=true) (hr:VRel S κ D w a x):x.oneCell'=true:=by
 cases a <;> simp [AV.one] at h
 case v=>rw [hr.v_inv]; exact h
 case sl=>have:=hr.sl_inv; cases this; rfl
 case fp=>have:=hr.fp_inv; cases this; rfl
 case loc=>obtain ⟨_,_,_,_,rfl⟩:=hr.loc_inv; rfl
 case row=>cases hr with
  | c h=>cases h
  | row0=>rfl
  | row=>rfl
 case fn=>obtain ⟨_,rfl,_⟩:=hr.fn_inv; rfl
 case map=>obtain ⟨_,_,_,_,rfl⟩:=hr.map_inv; rfl
 case mp=>have:=hr.mp_inv; cases this; rfl
 case fa=>have:=hr.fa_inv; cases this; rfl
theorem zkY:∀ (k:Nat) {a:AV} {x:Value},a.isC k=true→VRel S κ D w a x→CRel S w a x
 | 0,a,x,h,_=>by simp [AV.isC] at h
 | k+1,a,x,h,hr=>by
   cases a <;> simp [AV.isC] at h
   case v=>rw [hr.v_inv]; exact .v _
   case sl=>exact hr.sl_inv
   case fp=>exact hr.fp_inv
   case mp=>exact hr.mp_inv
   case fa=>exact hr.fa_inv
   case agg cs =>
    obtain ⟨vs,rfl,hl,h1,hp⟩:=hr.agg_inv
    exact .agg cs vs hl h1 fun j c x hc hx=>zkY k (zeC h c (List.mem_of_getElem? hc)) (hp j c x hc hx)
   case fn f cs =>
    obtain ⟨vs,rfl,hl,hp⟩:=hr.fn_inv
    exact .fn f cs vs hl fun j c x hc hx=>zkY k (zeC h c (List.mem_of_getElem? hc)) (hp j c x hc hx)
theorem zog {a:AV} {x:Value} (h1:allL AV.one a.cells=true) (hr:VRel S κ D w a x) :
  x.cells.size=a.cells.length∧(∀ y∈x.cells,y.oneCell'=true)∧∀ (j:Nat) (c:AV) (y:Value),a.cells[j]?=some c→x.cells[j]?=some y→VRel S κ D w c y:=by
 have other:a.cells=[a]→x.cells.size=a.cells.length∧(∀ y∈x.cells,y.oneCell'=true)∧∀ (j:Nat) (c:AV) (y:Value),a.cells[j]?=some c→x.cells[j]?=some y→VRel S κ D w c y:=by
  intro e
  have hx:x.oneCell'=true:=one_sound (zeC h1 a (by rw [e]; simp)) hr
  have hc:x.cells=#[x]:=by cases x <;> first | rfl | (simp [Value.oneCell'] at hx)
  rw [e,hc]
  refine ⟨rfl,by simpa using hx,fun j c y h h'=>?_⟩
  cases j with
  | zero=>simp at h h'; subst h; subst h'; exact hr
  | succ j=>simp at h
 cases a with
 | agg cs =>
   obtain ⟨vs,rfl,hl,h1,hp⟩:=hr.agg_inv
   exact ⟨hl,h1,hp⟩
 | _=>exact other rfl
theorem CRel.nil_sl (z:Nat):CRel S w (.sl z []) (.slice none 0 0):=
 .sl z [] none 0 0 (fun _ _=>undef) rfl (Nat.le_refl _) (fun _ h=>by cases h) (.inl rfl) (fun i j cs c h=>by simp at h)
theorem zpw (P:Program) (t:TypeId) (a:AV):nrm1 P t a=a∨(a=.v (.slice none 0 0)∧∃ z,nrm1 P t a=.sl z []):=by
 unfold nrm1
 split
 · split
   · split
     · exact .inr ⟨rfl,_,rfl⟩
     · exact .inl rfl
   · exact .inl rfl
 · exact .inl rfl
theorem zn0 {P:Program} {t:TypeId} {a:AV} {x:Value} (h:CRel S w a x):CRel S w (nrm1 P t a) x:=by
 rcases zpw P t a with e | ⟨rfl,z,e⟩
 · rw [e]; exact h
 · rw [e]; cases h; exact CRel.nil_sl z
theorem nrm1_rel {P:Program} {t:TypeId} {a:AV} {x:Value} (h:VRel S κ D w a x):VRel S κ D w (nrm1 P t a) x:=by
 rcases zpw P t a with e | ⟨rfl,z,e⟩
 · rw [e]; exact h
 · rw [e,h.v_inv]; exact .c (CRel.nil_sl z)
theorem zit (P:Program):∀ (ts:List TypeId) (l:List AV),(nrmL P ts l).length=l.length
 | [],l=>by cases l <;> rfl
 | t :: ts,[]=>rfl
 | t :: ts,a :: r=>by simp [nrmL,zit P ts r]
theorem znE (P:Program):∀ (ts:List TypeId) (l:List AV) (j:Nat) (c:AV),(nrmL P ts l)[j]?=some c→∃ a,l[j]?=some a∧(c=a∨∃ t,c=nrm1 P t a)
 | [],l,j,c,h=>by
   have:nrmL P [] l=l:=by cases l <;> rfl
   rw [this] at h
   exact ⟨c,h,.inl rfl⟩
 | t :: ts,[],j,c,h=>by simp [nrmL] at h
 | t :: ts,a :: r,j,c,h=>by
   cases j with
   | zero=>simp [nrmL] at h; exact ⟨a,by simp,.inr ⟨t,h.symm⟩⟩
   | succ j=>simp [nrmL] at h ⊢; exact znE P ts r j c h
theorem zm2 {P:Program} {t:TypeId} {a:AV} {x:Value} (h:VRel S κ D w a x):VRel S κ D w (nrm P t a) x:=by
 unfold nrm
 split
 · rename_i cs
   obtain ⟨vs,rfl,hl,h1,hr⟩:=h.agg_inv
   refine .agg _ vs (by rw [zit]; exact hl) h1 (fun j c x hj hx=>?_)
   obtain ⟨a,ha,hc⟩:=znE P _ _ j c hj
   rcases hc with rfl | ⟨t',rfl⟩
   · exact hr j _ x ha hx
   · exact nrm1_rel (hr j _ x ha hx)
 · exact nrm1_rel h
theorem nrmP_rel {P:Program} {t:TypeId} {a:AV} {x:Value} (h:VRel S κ D w a x):VRel S κ D w (nrmP P t a) x:=by
 unfold nrmP
 split
 · exact zm2 h
 · exact h
theorem nrmS_rel {P:Program} {L:Nat→Option Ent} {t:TypeId} {b a:AV} {x:Value} (h:VRel S κ D w a x):VRel S κ D w (nrmS P L t b a) x:=by
 unfold nrmS
 repeat' split
 all_goals first | exact h | exact zm2 h
theorem ziu (P:Program):∀ (ts:List TypeId) (l:List AV),(nrmA P ts l).length=l.length
 | [],l=>by cases l <;> rfl
 | t :: ts,[]=>rfl
 | t :: ts,a :: r=>by simp [nrmA,ziu P ts r]
theorem zpF (P:Program):∀ (ts:List TypeId) (l:List AV) (j:Nat) (c:AV),(nrmA P ts l)[j]?=some c→∃ a,l[j]?=some a∧(c=a∨∃ t,c=nrm P t a)
 | [],l,j,c,h=>by
   have:nrmA P [] l=l:=by cases l <;> rfl
   rw [this] at h
   exact ⟨c,h,.inl rfl⟩
 | t :: ts,[],j,c,h=>by simp [nrmA] at h
 | t :: ts,a :: r,j,c,h=>by
   cases j with
   | zero=>simp [nrmA] at h; exact ⟨a,by simp,.inr ⟨t,h.symm⟩⟩
   | succ j=>simp [nrmA] at h ⊢; exact zpF P ts r j c h
theorem nrmA_rel {P:Program} {ts:List TypeId} {l:List AV} {vs:Array Value} (hr:∀ (j:Nat) (c:AV) (x:Value),l[j]?=some c→vs[j]?=some x→VRel S κ D w c x)
  (j:Nat) (c:AV) (x:Value) (hj:(nrmA P ts l)[j]?=some c) (hx:vs[j]?=some x):VRel S κ D w c x:=by
 obtain ⟨a,ha,hc⟩:=zpF P ts l j c hj
 rcases hc with rfl | ⟨t,rfl⟩
 · exact hr j _ x ha hx
 · exact zm2 (hr j _ x ha hx)
theorem nrm1_ids (P:Program) (t:TypeId) (L:Nat→Option Ent) (k:Nat) (a:AV):(nrm1 P t a).ids L k=a.ids L k:=by
 rcases zpw P t a with e | ⟨rfl,z,e⟩
 · rw [e]
 · rw [e]; cases k <;> rfl
theorem nrmL_ids (P:Program) (L:Nat→Option Ent) (k:Nat):∀ (ts:List TypeId) (l:List AV),(nrmL P ts l).flatMap (AV.ids L k)=l.flatMap (AV.ids L k)
 | [],l=>by cases l <;> rfl
 | t :: ts,[]=>rfl
 | t :: ts,a :: r=>by simp only [nrmL,List.flatMap_cons,nrm1_ids,nrmL_ids P L k ts r]
theorem nrm_ids (P:Program) (t:TypeId) (L:Nat→Option Ent) (k:Nat) (a:AV):(nrm P t a).ids L k=a.ids L k:=by
 unfold nrm
 split
 · cases k with
   | zero=>rfl
   | succ k=>simp only [AV.ids,nrmL_ids]
 · exact nrm1_ids P t L k a
end inv
end Go.Ab
