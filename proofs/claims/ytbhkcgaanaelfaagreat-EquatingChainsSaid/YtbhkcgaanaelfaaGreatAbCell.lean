/- A row that is held in a cell of a box gets a number of its own. -/
import Derived.Test.YtbhkcgaanaelfaaGreatAbDraw
namespace Go.Ab
open Go.RowKit
section
variable {P:Program} {N:Nat} {w0:World} {S0:Nat→Prop} {κ0:Kap} {K:Nat→Prop} {S:Nat→Prop} {κ:Kap} {T:Nat→AV} {L:Nat→Option Ent} {a:Act} {w:World}
theorem Good.addNil (h:Good w0 S0 κ0 K N S κ T L a w) {s:Nat} (hs:s < 1000) (hL:L s=none) (z:Nat) (e:TypeId) (hz:0 < z) :
  Good w0 S0 κ0 K N S (fun b=>if b=s then none else κ b) T (fun b=>if b=s then some { z:=z,e:=e,es:=[],box:=false } else L b) a w:=by
 have hne:∀ b,(L b).isSome=true→b≠s:=fun b hb e=>by subst e; rw [hL] at hb; cases hb
 have hD:∀ b,(L b).isSome=true→(if b=s then some ({ z:=z,e:=e,es:=[],box:=false }:Ent) else L b).isSome=true:=fun b hb=>by rw [if_neg (hne b hb)]; exact hb
 have hκ:∀ b,(L b).isSome=true→(fun b=>if b=s then none else κ b) b=κ b:=fun b hb=>if_neg (hne b hb)
 have hcase:∀ b,(if b=s then some ({ z:=z,e:=e,es:=[],box:=false }:Ent) else L b).isSome=true→b=s∨(b≠s∧(L b).isSome=true):=fun b hb=>by
  by_cases hbs:b=s
  · exact .inl hbs
  · rw [if_neg hbs] at hb; exact .inr ⟨hbs,hb⟩
 exact { h with
  par:=fun b hb=>by
   have:b≠s:=by omega
   simp only [if_neg this]; exact h.par b hb
  parK:=fun b hb hl=>by
   rcases hcase b hl with e | ⟨_,hl⟩
   · omega
   · exact h.parK b hb hl
  own:=fun b g c hb hl hk=>by
   rcases hcase b hl with e | ⟨hbs,hl⟩
   · subst e; simp at hk
   · simp only [if_neg hbs] at hk; exact h.own b g c hb hl hk
  inj:=fun b b' g c c' hl hl' hk hk'=>by
   rcases hcase b hl with e | ⟨hbs,hl⟩
   · subst e; simp at hk
   · rcases hcase b' hl' with e | ⟨hbs',hl'⟩
     · subst e; simp at hk'
     · simp only [if_neg hbs] at hk
       simp only [if_neg hbs'] at hk'
       exact h.inj b b' g c c' hl hl' hk hk'
  ents:=fun b ent hb=>by
   by_cases hbs:b=s
   · subst hbs
     simp at hb
     subst hb
     refine EntAt.of (.inr hz) ⟨by simp,?_⟩
     simp
   · rw [if_neg hbs] at hb
     have hl:(L b).isSome=true:=by simp [hb]
     have hE:=h.ents b ent hb
     simp only [if_neg hbs]
     refine hE.mono (fun _ h=>h) (fun _ _=>rfl) hD hκ (fun g c hk=>⟨rfl,?_⟩)
     rw [hk] at hE
     exact hE.notS
  slots:=fun k=>(h.slots k).mono (fun _ h=>h) (fun _ _=>rfl) hD hκ }
theorem Good.recell (h:Good w0 S0 κ0 K N S κ T L a w) {B j:Nat} {ent:Ent} {cs:List AV} {a0 a1:AV} (hB:L B=some ent) (hbx:ent.box=true) (hes:ent.es=[cs]) (hj:cs[j]?=some a0)
  (hv:∀ x,VRel S κ (fun b=>(L b).isSome=true) w a0 x→VRel S κ (fun b=>(L b).isSome=true) w a1 x) :
  Good w0 S0 κ0 K N S κ T (fun b=>if b=B then some { ent with es:=[cs.set j a1] } else L b) a w:=by
 have hiff:(fun b=>(if b=B then some ({ ent with es:=[cs.set j a1] }:Ent) else L b).isSome=true)=(fun b=>(L b).isSome=true):=by
  funext b
  by_cases hb:b=B
  · subst hb; simp [hB]
  · rw [if_neg hb]
 have hi:∀ b,(if b=B then some ({ ent with es:=[cs.set j a1] }:Ent) else L b).isSome=true→(L b).isSome=true:=fun b hb=>by
  exact (congrFun hiff b)▸hb
 exact { h with
  parK:=fun b hb hl=>h.parK b hb (hi b hl)
  own:=fun b g c hb hl hk=>h.own b g c hb (hi b hl) hk
  inj:=fun b b' g c c' hl hl' hk hk'=>h.inj b b' g c c' (hi b hl) (hi b' hl') hk hk'
  ents:=fun b en hb=>by
   rw [hiff]
   by_cases hbB:b=B
   · subst hbB
     simp at hb
     subst hb
     obtain ⟨h1,h2⟩:=(h.ents b ent hB).1 (.inl hbx)
     refine EntAt.of (.inl hbx) ⟨?_,?_⟩
     · intro cs' hcs'
       simp at hcs'
       subst hcs'
       simpa using h1 cs (by simp [hes])
     · cases hk:κ b with
       | none=>rw [hk] at h2; have:=h2.2; rw [hbx] at this; cases this
       | some gc =>
         obtain ⟨g,c⟩:=gc
         rw [hk] at h2
         obtain ⟨cells,q1,q2,q3,q4,q5,q6⟩:=h2
         refine ⟨cells,q1,q2,by simpa [hes] using q3,q4,q5,fun i k cs' av hi' hk'=>?_⟩
         cases i with
         | succ i=>simp at hi'
         | zero =>
           simp at hi'
           subst hi'
           by_cases hkj:k=j
           · subst hkj
             obtain ⟨u,u1,u2,u3,u4⟩:=q6 0 k cs a0 (by simp [hes]) hj
             have hlt:k < cs.length:=(List.getElem?_eq_some_iff.1 hj).1
             simp [hlt] at hk'
             subst hk'
             exact ⟨u,u1,u2,fun hb'=>hv u (u3 hbx),fun hb'=>by rw [hbx] at hb'; cases hb'⟩
           · rw [List.getElem?_set_ne (fun e=>hkj e.symm)] at hk'
             obtain ⟨u,u1,u2,u3,u4⟩:=q6 0 k cs av (by simp [hes]) hk'
             exact ⟨u,u1,u2,u3,u4⟩
   · rw [if_neg hbB] at hb
     exact h.ents b en hb
  slots:=fun k=>by rw [hiff]; exact h.slots k }
theorem zve {κ':Kap} {D D':Nat→Prop} {b s:Nat} (hD:∀ c,D c→D' (if c=b then s else c)) (hκ:∀ c,D c→κ' (if c=b then s else c)=κ c) :
  ∀ (k:Nat) {a:AV} {x:Value},VRel S κ D w a x→VRel S κ' D' w (a.ren b s k) x:=by
 intro k
 induction k with
 | zero=>intro a x _; exact .bot x
 | succ k ih =>
   intro a x h
   have lists:∀ (cs:List AV) (vs:Array Value),vs.size=cs.length→(∀ (j:Nat) (c:AV) (x:Value),cs[j]?=some c→vs[j]?=some x→VRel S κ D w c x) →
     vs.size=(cs.map (AV.ren b s k)).length∧∀ (j:Nat) (c:AV) (x:Value),(cs.map (AV.ren b s k))[j]?=some c→vs[j]?=some x→VRel S κ' D' w c x:=by
    intro cs vs hl hr
    refine ⟨by simpa using hl,fun j c x hj hx=>?_⟩
    rw [List.getElem?_map] at hj
    cases hc:cs[j]? with
    | none=>simp [hc] at hj
    | some c' =>
      simp [hc] at hj
      subst hj
      exact ih (hr j c' x hc hx)
   cases a with
   | bot=>exact .bot x
   | v y=>rw [h.v_inv]; exact .c (.v _)
   | sl z es=>exact .c h.sl_inv
   | fp cs=>exact .c h.fp_inv
   | agg cs =>
     obtain ⟨vs,rfl,hl,h1,hr⟩:=h.agg_inv
     obtain ⟨q1,q2⟩:=lists cs vs hl hr
     exact .agg _ vs q1 h1 q2
   | tup cs =>
     obtain ⟨vs,rfl,hl,hr⟩:=h.tup_inv
     obtain ⟨q1,q2⟩:=lists cs vs hl hr
     exact .tup _ vs q1 q2
   | fn f cs =>
     obtain ⟨vs,rfl,hl,hr⟩:=h.fn_inv
     obtain ⟨q1,q2⟩:=lists cs vs hl hr
     exact .fn f _ vs q1 q2
   | loc c z i o =>
     obtain ⟨g,cp,hd,hk,rfl⟩:=h.loc_inv
     exact .loc _ z i o g cp (hD c hd) ((hκ c hd).trans hk)
   | row c z o n =>
     cases h with
     | c h=>cases h
     | row0 _ _ hd hk=>exact .row0 _ z (hD c hd) ((hκ c hd).trans hk)
     | row _ _ _ _ g cp off' cap hd hk hn ho hc=>exact .row _ z o n g cp off' cap (hD c hd) ((hκ c hd).trans hk) hn ho hc
   | map c =>
     obtain ⟨g,cp,hd,hk,rfl⟩:=h.map_inv
     exact .map _ g cp (hD c hd) ((hκ c hd).trans hk)
   | mp es=>exact .c h.mp_inv
   | fa z es=>exact .c h.fa_inv
   | new=>exact .bot x
   | newp=>exact .bot x
   | newm=>exact .bot x
theorem get_renT (b s:Nat):∀ (t:Tab) (k:Nat),get (renT b s t) k=(get t k).ren b s 4
 | [],k=>rfl
 | (j,a) :: r,k=>by
   simp only [renT,get]
   split
   · rfl
   · exact get_renT b s r k
def renL (b s:Nat) (L:Nat→Option Ent):Nat→Option Ent:=fun c=>if c=s then (L b).map (renE b s) else if c=b then none else (L c).map (renE b s)
theorem zuZ {b s:Nat} (hbs:b≠s):∀ (m:Mem) (c:Nat),look m s=none→look (renM b s m) c=renL b s (look m) c
 | [],c,_=>by simp [renM,look,renL]
 | (j,e) :: r,c,h=>by
   simp only [look] at h
   split at h
   · cases h
   · rename_i hsj
     have ih:=zuZ hbs r c h
     simp only [renM,look]
     by_cases hjb:j=b
     · subst hjb
       rw [if_pos rfl]
       by_cases hcs:c=s
       · subst hcs; simp [renL]
       · rw [if_neg hcs,ih]
         unfold renL
         rw [if_neg hcs,if_neg hcs]
         by_cases hcj:c=j
         · rw [if_pos hcj,if_pos hcj]
         · rw [if_neg hcj,if_neg hcj]
           simp only [if_neg hcj]
     · rw [if_neg hjb]
       by_cases hcj:c=j
       · subst hcj
         rw [if_pos rfl]
         have hcs:c≠s:=fun e=>hsj e.symm
         unfold renL
         rw [if_neg hcs,if_neg hjb]
         simp
       · rw [if_neg hcj,ih]
         unfold renL
         by_cases hcs:c=s
         · rw [if_pos hcs,if_pos hcs]
           simp only [if_neg (fun e=>hjb e.symm:¬ b=j)]
         · rw [if_neg hcs,if_neg hcs]
           simp only [if_neg hcj]
theorem Good.ren (h:Good w0 S0 κ0 K N S κ T L a w) {b s:Nat} (hb:b < 1000) (hs:s < 1000) (hbs:b≠s) (hL:L s=none) :
  Good w0 S0 κ0 K N S (fun c=>if c=s then κ b else κ c) (fun k=>(T k).ren b s 4) (renL b s L) a w:=by
 have hne:∀ c,(L c).isSome=true→c≠s:=fun c hc e=>by subst e; rw [hL] at hc; cases hc
 have hD:∀ c,(L c).isSome=true→(renL b s L (if c=b then s else c)).isSome=true:=fun c hc=>by
  unfold renL
  by_cases hcb:c=b
  · subst hcb; simp [hc]
  · simp [hcb,hne c hc,hc]
 have hκ:∀ c,(L c).isSome=true→(fun c=>if c=s then κ b else κ c) (if c=b then s else c)=κ c:=fun c hc=>by
  by_cases hcb:c=b
  · subst hcb; simp
  · simp [hcb,hne c hc]
 have hcase:∀ c,(renL b s L c).isSome=true→(c=s∧(L b).isSome=true)∨(c≠s∧c≠b∧(L c).isSome=true):=fun c hc=>by
  unfold renL at hc
  by_cases hcs:c=s
  · rw [if_pos hcs] at hc; exact .inl ⟨hcs,by simpa using hc⟩
  · rw [if_neg hcs] at hc
    by_cases hcb:c=b
    · rw [if_pos hcb] at hc; cases hc
    · rw [if_neg hcb] at hc; exact .inr ⟨hcs,hcb,by simpa using hc⟩
 have hE:∀ c ent,L c=some ent→EntAt S (fun c=>if c=s then κ b else κ c) (fun c=>(renL b s L c).isSome=true) w (κ c) (renE b s ent):=fun c ent hc=>by
  have hE:=h.ents c ent hc
  unfold renE
  cases hbx:ent.box with
  | false =>
    simp only [Bool.false_eq_true,if_false]
    exact hE.handed (fun _ h=>h) (fun g cp hk=>by rw [hk] at hE; exact hE.notS) (fun hb'=>by rw [hbx] at hb'; cases hb')
  | true =>
    simp only [if_true]
    obtain ⟨h1,h2⟩:=hE.1 (.inl hbx)
    refine EntAt.of (.inl rfl) ⟨?_,?_⟩
    · intro cs hcs
      simp only [List.mem_map] at hcs
      obtain ⟨cs',hm,rfl⟩:=hcs
      simpa using h1 cs' hm
    · cases hk:κ c with
      | none=>rw [hk] at h2; have:=h2.2; rw [hbx] at this; cases this
      | some gc =>
        obtain ⟨g,cp⟩:=gc
        rw [hk] at h2
        obtain ⟨cells,q1,q2,q3,q4,q5,q6⟩:=h2
        refine ⟨cells,q1,q2,by simpa using q3,q4,q5,fun i j cs av hi hj=>?_⟩
        simp only [List.getElem?_map] at hi
        cases hi0:ent.es[i]? with
        | none=>simp [hi0] at hi
        | some cs0 =>
          simp only [hi0,Option.map_some,Option.some.injEq] at hi
          subst hi
          simp only [List.getElem?_map] at hj
          cases hj0:cs0[j]? with
          | none=>simp [hj0] at hj
          | some a0 =>
            simp only [hj0,Option.map_some,Option.some.injEq] at hj
            subst hj
            obtain ⟨u,u1,u2,u3,_⟩:=q6 i j cs0 a0 hi0 hj0
            exact ⟨u,u1,u2,fun _=>zve hD hκ 4 (u3 hbx),fun hb'=>by simp at hb'⟩
 exact { h with
  par:=fun c hc=>by
   have:c≠s:=by omega
   simp only [if_neg this]; exact h.par c hc
  parK:=fun c hc hl=>by
   rcases hcase c hl with ⟨e,_⟩ | ⟨_,_,hl⟩
   · omega
   · exact h.parK c hc hl
  own:=fun c g cp hc hl hk=>by
   rcases hcase c hl with ⟨e,hl⟩ | ⟨hcs,_,hl⟩
   · simp only [if_pos e] at hk; exact h.own b g cp hb hl hk
   · simp only [if_neg hcs] at hk; exact h.own c g cp hc hl hk
  inj:=fun c c' g cp cp' hl hl' hk hk'=>by
   rcases hcase c hl with ⟨e,hl⟩ | ⟨hcs,hcb,hl⟩
   · rcases hcase c' hl' with ⟨e',_⟩ | ⟨hcs',hcb',hl'⟩
     · rw [e,e']
     · simp only [if_pos e] at hk
       simp only [if_neg hcs'] at hk'
       exact absurd (h.inj b c' g cp cp' hl hl' hk hk').symm hcb'
   · simp only [if_neg hcs] at hk
     rcases hcase c' hl' with ⟨e',hl'⟩ | ⟨hcs',hcb',hl'⟩
     · simp only [if_pos e'] at hk'
       exact absurd (h.inj c b g cp cp' hl hl' hk hk') hcb
     · simp only [if_neg hcs'] at hk'
       exact h.inj c c' g cp cp' hl hl' hk hk'
  ents:=fun c en hc=>by
   unfold renL at hc
   by_cases hcs:c=s
   · rw [if_pos hcs] at hc
     cases hb0:L b with
     | none=>simp [hb0] at hc
     | some ent =>
       simp only [hb0,Option.map_some,Option.some.injEq] at hc
       subst hc
       simp only [if_pos hcs]
       exact hE b ent hb0
   · rw [if_neg hcs] at hc
     by_cases hcb:c=b
     · rw [if_pos hcb] at hc; cases hc
     · rw [if_neg hcb] at hc
       cases hc0:L c with
       | none=>simp [hc0] at hc
       | some ent =>
         simp only [hc0,Option.map_some,Option.some.injEq] at hc
         subst hc
         simp only [if_neg hcs]
         exact hE c ent hc0
  slots:=fun k=>zve hD hκ 4 (h.slots k) }
theorem zsL (s:Nat) (st:St):look (del s st).m s=none:=by
 show look (delM s st.m) s=none
 rw [zjr]
 simp [killL]
theorem cell1_good {B j s z:Nat} {e:TypeId} {st:St} (h:GoodF w0 S0 κ0 K N (fs st) a w):GoodF w0 S0 κ0 K N (fs (cell1 B j s z e st)) a w:=by
 unfold cell1
 split
 case isFalse =>
  split
  case isFalse=>exact h
  split
  case h_2=>exact h
  rename_i ent hB
  split
  case h_2=>exact h
  rename_i cs hbx hes
  split
  case h_2=>exact h
  rename_i hj
  obtain ⟨S,κ,h1⟩:=h
  have h2:=h1.recell (B:=B) (j:=j) (ent:=ent) (cs:=cs) (a0:=.v (.slice none 0 0)) (a1:=.sl z []) hB hbx hes hj (fun x hx=>by
   have hx':=VRel.v_inv hx
   subst hx'
   exact .c (CRel.nil_sl z))
  have e2:(fs ({ t:=st.t,m:=repM (B,{ ent with es:=[cs.set j (.sl z [])] }) st.m }:St)).2=(fun b=>if b=B then some { ent with es:=[cs.set j (.sl z [])] } else (fs st).2 b):=funext fun c=>by
   show look (repM _ _) c=_
   rw [zn2 _ _ _ (by simp [hB])]
   rfl
  rw [← e2] at h2
  exact ⟨S,κ,h2⟩
 rename_i hc
 obtain ⟨hs,hBs,hzp⟩:=hc
 split
 case h_2=>exact h
 split
 case h_2=>exact h
 split
 · rename_i b _ _ _ _
   split
   · exact h
   · rename_i hbs
     split
     case isFalse=>exact h
     rename_i hb
     obtain ⟨S,κ,h1⟩:=h.del s
     have:=h1.ren hb hs hbs (zsL s st)
     have e1:(fs (renS b s (del s st))).1=fun k=>((fs (del s st)).1 k).ren b s 4:=funext fun k=>get_renT b s _ k
     have e2:(fs (renS b s (del s st))).2=renL b s (fs (del s st)).2:=funext fun c=>zuZ hbs _ c (zsL s st)
     rw [← e1,← e2] at this
     exact ⟨S,_,this⟩
 · simp only
   split
   case h_2=>exact h
   rename_i ent' hB'
   split
   case h_2=>exact h
   rename_i cs' hbx hes
   split
   case h_2=>exact h
   rename_i hj
   obtain ⟨S,κ,h1⟩:=h.del s
   have h2:=h1.addNil hs (zsL s st) z e hzp
   have h3:=h2.recell (B:=B) (j:=j) (ent:=ent') (cs:=cs') (a0:=.v (.slice none 0 0)) (a1:=.row s z 0 0) (by rw [if_neg hBs]; exact hB') hbx hes hj (fun x hx=>by
    have hx':=VRel.v_inv hx
    subst hx'
    exact .row0 s z (by simp) (by simp))
   have e2:(fs ({ t:=(del s st).t,m:=(s,{ z:=z,e:=e,es:=[],box:=false }) :: repM (B,{ ent' with es:=[cs'.set j (.row s z 0 0)] }) (del s st).m }:St)).2 =
     (fun b=>if b=B then some { ent' with es:=[cs'.set j (.row s z 0 0)] } else if b=s then some { z:=z,e:=e,es:=[],box:=false } else (fs (del s st)).2 b):=funext fun c=>by
    show look ((s,_) :: repM _ _) c=_
    simp only [look]
    rw [zn2 _ _ _ (by simp [hB'])]
    by_cases hcs:c=s
    · have:c≠B:=fun e=>hBs (e.symm.trans hcs)
      rw [if_pos hcs,if_neg this,if_pos hcs]
    · rw [if_neg hcs]
      simp only [if_neg hcs]
      rfl
   rw [← e2] at h3
   exact ⟨S,_,h3⟩
 · exact h
theorem zrc {a:Act} {w:World}:∀ (l:List (Nat×Nat×Nat×Nat×TypeId)) (st:St),GoodF w0 S0 κ0 K N (fs st) a w→GoodF w0 S0 κ0 K N (fs (zlM l st)) a w
 | [],_,h=>h
 | _ :: l,_,h=>zrc l _ (cell1_good h)
end
end Go.Ab
