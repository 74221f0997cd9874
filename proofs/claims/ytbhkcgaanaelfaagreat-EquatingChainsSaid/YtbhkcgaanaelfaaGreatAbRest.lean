/- What is left to do: the rest of a run, its end. -/
import Derived.Test.YtbhkcgaanaelfaaGreatAbCond
namespace Go.Ab
open Go.RowKit
def pown1 (s z:Nat) (e:TypeId) (st:St):Option (St×List Prop):=
 if s < 1000∧0 < z then
  match get st.t s with
  | .v (.slice none 0 0) =>
    let st':=del s st
    some ({ t:=(s,.row s z 0 0) :: st'.t,m:=(s,{ z,e,es:=[],box:=false }) :: st'.m },[])
  | .row b z' off n=>if b=s then some (st,[]) else match look st.m b with
    | some ent=>if b < 1000∧off=0∧ent.box=false∧z'=ent.z then
      let st':=del b (del s st)
      some ({ t:=(s,.row s z' 0 n) :: st'.t,m:=(s,ent) :: st'.m },[n=ent.es.length])
      else none
    | none=>none
  | _=>some (st,[])
 else none
theorem zy5 {s z:Nat} {e:TypeId} {st st':St} {ps:List Prop} (h:pown1 s z e st=some (st',ps)) (hh:Holds ps):own1 s z e st=st':=by
 unfold pown1 at h
 unfold own1
 split at h
 case isFalse=>cases h
 rename_i hs
 rw [if_pos hs]
 split at h
 · rename_i hv
   simp only [Option.some.injEq,Prod.mk.injEq] at h
   rw [hv]
   exact h.1
 · rename_i b z' off n hv
   rw [hv]
   simp only
   split at h
   · rename_i hb
     rw [if_pos hb]
     simp only [Option.some.injEq,Prod.mk.injEq] at h
     exact h.1
   · rename_i hb
     rw [if_neg hb]
     cases hl:look st.m b with
     | none=>simp [hl] at h
     | some ent =>
       simp only [hl] at h ⊢
       split at h
       case isFalse=>cases h
       rename_i hc
       simp only [Option.some.injEq,Prod.mk.injEq] at h
       obtain ⟨rfl,rfl⟩:=h
       rw [if_pos ⟨hc.1,hc.2.1,hh.1,hc.2.2.1,hc.2.2.2⟩]
 · rename_i h1 h2
   simp only [Option.some.injEq,Prod.mk.injEq] at h
   obtain ⟨rfl,rfl⟩:=h
   split
   · rename_i hv; exact absurd hv h1
   · rename_i b z' off n hv; exact absurd hv (h2 b z' off n)
   · rfl
def zlI:List (Nat×Nat×TypeId)→St→Option (St×List Prop)
 | [],st=>some (st,[])
 | (s,z,e) :: r,st=>match pown1 s z e st with
   | none=>none
   | some (st',ps)=>match zlI r st' with
     | none=>none
     | some (st'',qs)=>some (st'',ps++qs)
theorem zmp:∀ (l:List (Nat×Nat×TypeId)) (st st':St) (ps:List Prop),zlI l st=some (st',ps)→Holds ps→ownAll l st=st'
 | [],st,st',ps,h,_=>by simp [zlI] at h; exact h.1
 | (s,z,e) :: r,st,st',ps,h,hh=>by
   simp only [zlI] at h
   cases h1:pown1 s z e st with
   | none=>simp [h1] at h
   | some q =>
     obtain ⟨st1,p1⟩:=q
     simp only [h1] at h
     cases h2:zlI r st1 with
     | none=>simp [h2] at h
     | some q =>
       obtain ⟨st2,p2⟩:=q
       simp only [h2,Option.some.injEq,Prod.mk.injEq] at h
       obtain ⟨rfl,rfl⟩:=h
       rw [zb0] at hh
       simp only [ownAll]
       rw [zy5 h1 hh.1]
       exact zmp r st1 st2 p2 h2 hh.2
def pfr1 (bs:List Nat) (L:Nat→Option Ent):Nat→AV→Option (AV×List Prop)
 | 0,_=>some (.bot,[])
 | k+1,a=>match a with
   | .loc c z i o=>if bs.contains c then (if ((AV.loc c z i o).ids L 5).all bs.contains then psnap L 5 (.loc c z i o) else some (.bot,[])) else some (.loc c z i o,[])
   | .row c z o n=>if bs.contains c then psnap L 5 (.row c z o n) else some (.row c z o n,[])
   | .agg cs=>match mapO (pfr1 bs L k) cs with
     | some l=>some (.agg (l.map (·.1)),l.flatMap (·.2))
     | none=>none
   | .tup cs=>match mapO (pfr1 bs L k) cs with
     | some l=>some (.tup (l.map (·.1)),l.flatMap (·.2))
     | none=>none
   | .fn f cs=>match mapO (pfr1 bs L k) cs with
     | some l=>some (.fn f (l.map (·.1)),l.flatMap (·.2))
     | none=>none
   | .v x=>some (.v x,[])
   | .sl z es=>some (.sl z es,[])
   | .fp cs=>some (.fp cs,[])
   | .map c=>if bs.contains c then psnap L 5 (.map c) else some (.map c,[])
   | .mp es=>some (.mp es,[])
   | .fa z es=>some (.fa z es,[])
   | _=>some (.bot,[])
theorem mapO_map {α β γ:Type} {g:α→Option γ} {f:α→β} {t:γ→β}:∀ {l:List α} {r:List γ},mapO g l=some r→(∀ a c,c∈r→g a=some c→f a=t c)→l.map f=r.map t
 | [],r,h,_=>by simp [mapO] at h; subst h; rfl
 | a :: l,r,h,hf=>by
   simp only [mapO] at h
   cases hg:g a with
   | none=>simp [hg] at h
   | some c =>
     simp only [hg] at h
     cases hm:mapO g l with
     | none=>simp [hm] at h
     | some l' =>
       simp only [hm,Option.some.injEq] at h
       subst h
       rw [List.map_cons,List.map_cons,hf a c (by simp) hg,mapO_map hm (fun a' c' hc=>hf a' c' (by simp [hc]))]
theorem ztM {bs:List Nat} {L:Nat→Option Ent}:∀ (k:Nat) (a a':AV) (ps:List Prop),pfr1 bs L k a=some (a',ps)→Holds ps→zcI bs L k a=a':=by
 intro k
 induction k with
 | zero=>intro a a' ps h _; simp only [pfr1,Option.some.injEq,Prod.mk.injEq] at h; exact h.1
 | succ k ih =>
   intro a a' ps h hh
   have lists:∀ (cs:List AV) (l:List (AV×List Prop)),mapO (pfr1 bs L k) cs=some l→Holds (l.flatMap (·.2))→cs.map (zcI bs L k)=l.map (·.1):=fun cs l hm hl =>
    mapO_map hm (fun a c hc hg=>ih a c.1 c.2 hg (zt2 hl c hc))
   cases a with
   | loc c z i o =>
     simp only [pfr1] at h
     simp only [zcI]
     split at h
     · rename_i hc
       rw [if_pos hc]
       split at h
       · rename_i hi
         rw [if_pos hi,zg7 5 _ _ _ h hh]
         rfl
       · rename_i hi
         rw [if_neg hi]
         simp only [Option.some.injEq,Prod.mk.injEq] at h
         exact h.1
     · rename_i hc
       rw [if_neg hc]
       simp only [Option.some.injEq,Prod.mk.injEq] at h
       exact h.1
   | row c z o n =>
     simp only [pfr1] at h
     simp only [zcI]
     split at h
     · rename_i hc
       rw [if_pos hc,zg7 5 _ _ _ h hh]
       rfl
     · rename_i hc
       rw [if_neg hc]
       simp only [Option.some.injEq,Prod.mk.injEq] at h
       exact h.1
   | agg cs =>
     simp only [pfr1] at h
     split at h
     · rename_i l hm
       simp only [Option.some.injEq,Prod.mk.injEq] at h
       obtain ⟨rfl,rfl⟩:=h
       simp only [zcI]
       rw [lists cs l hm hh]
     · cases h
   | tup cs =>
     simp only [pfr1] at h
     split at h
     · rename_i l hm
       simp only [Option.some.injEq,Prod.mk.injEq] at h
       obtain ⟨rfl,rfl⟩:=h
       simp only [zcI]
       rw [lists cs l hm hh]
     · cases h
   | fn f cs =>
     simp only [pfr1] at h
     split at h
     · rename_i l hm
       simp only [Option.some.injEq,Prod.mk.injEq] at h
       obtain ⟨rfl,rfl⟩:=h
       simp only [zcI]
       rw [lists cs l hm hh]
     · cases h
   | map c =>
     simp only [pfr1] at h
     simp only [zcI]
     split at h
     · rename_i hc
       rw [if_pos hc,zg7 5 _ _ _ h hh]
       rfl
     · rename_i hc
       rw [if_neg hc]
       simp only [Option.some.injEq,Prod.mk.injEq] at h
       exact h.1
   | _=>simp only [pfr1,Option.some.injEq,Prod.mk.injEq] at h; exact h.1
def pfrT (bs:List Nat) (L:Nat→Option Ent):Tab→Option (Tab×List Prop)
 | []=>some ([],[])
 | (j,a) :: r=>match pfr1 bs L 4 a,pfrT bs L r with
   | some (a',ps),some (r',qs)=>some ((j,a') :: r',ps++qs)
   | _,_=>none
theorem zth {bs:List Nat} {L:Nat→Option Ent}:∀ (t t':Tab) (ps:List Prop),pfrT bs L t=some (t',ps)→Holds ps→zm7 bs L t=t'
 | [],t',ps,h,_=>by simp only [pfrT,Option.some.injEq,Prod.mk.injEq] at h; exact h.1
 | (j,a) :: r,t',ps,h,hh=>by
   simp only [pfrT] at h
   split at h
   · rename_i a' p1 r' p2 h1 h2
     simp only [Option.some.injEq,Prod.mk.injEq] at h
     obtain ⟨rfl,rfl⟩:=h
     rw [zb0] at hh
     simp only [zm7]
     rw [ztM 4 a a' p1 h1 hh.1,zth r r' p2 h2 hh.2]
   · cases h
def pfrCs (bs:List Nat) (L:Nat→Option Ent):List AV→Option (List AV×List Prop)
 | []=>some ([],[])
 | a :: r=>match pfr1 bs L 4 a,pfrCs bs L r with
   | some (a',ps),some (r',qs)=>some (a' :: r',ps++qs)
   | _,_=>none
theorem zso {bs:List Nat} {L:Nat→Option Ent}:∀ (t t':List AV) (ps:List Prop),pfrCs bs L t=some (t',ps)→Holds ps→t.map (zcI bs L 4)=t'
 | [],t',ps,h,_=>by simp only [pfrCs,Option.some.injEq,Prod.mk.injEq] at h; exact h.1
 | a :: r,t',ps,h,hh=>by
   simp only [pfrCs] at h
   split at h
   · rename_i a' p1 r' p2 h1 h2
     simp only [Option.some.injEq,Prod.mk.injEq] at h
     obtain ⟨rfl,rfl⟩:=h
     rw [zb0] at hh
     rw [List.map_cons,ztM 4 a a' p1 h1 hh.1,zso r r' p2 h2 hh.2]
   · cases h
def pfrE (bs:List Nat) (L:Nat→Option Ent) (e:Ent):Option (Ent×List Prop):=
 match e with
 | ⟨z,t,es,b⟩=>match b with
   | true=>(match es with
     | [cs]=>(match pfrCs bs L cs with
       | some (cs',ps)=>some (⟨z,t,[cs'],true⟩,ps)
       | none=>none)
     | _=>none)
   | false=>some (⟨z,t,es,false⟩,[])
theorem pfrE_sound {bs:List Nat} {L:Nat→Option Ent} {e e':Ent} {ps:List Prop} (h:pfrE bs L e=some (e',ps)) (hh:Holds ps) :
  (if e.box then { e with es:=e.es.map fun cs=>cs.map (zcI bs L 4) } else e)=e':=by
 obtain ⟨z,t,es,b⟩:=e
 cases b with
 | true =>
   simp only [pfrE] at h
   split at h
   · rename_i cs
     split at h
     · rename_i cs' p1 h1
       simp only [Option.some.injEq,Prod.mk.injEq] at h
       obtain ⟨rfl,rfl⟩:=h
       simp only [if_true,List.map_cons,List.map_nil]
       rw [zso cs cs' _ h1 hh]
     · cases h
   · cases h
 | false =>
   simp only [pfrE,Option.some.injEq,Prod.mk.injEq] at h
   obtain ⟨rfl,rfl⟩:=h
   rfl
def pfrM (bs:List Nat) (L:Nat→Option Ent):Mem→Option (Mem×List Prop)
 | []=>some ([],[])
 | (j,e) :: r=>if bs.contains j then pfrM bs L r else match pfrE bs L e,pfrM bs L r with
   | some (e',ps),some (r',qs)=>some ((j,e') :: r',ps++qs)
   | _,_=>none
theorem zpH {bs:List Nat} {L:Nat→Option Ent}:∀ (m m':Mem) (ps:List Prop),pfrM bs L m=some (m',ps)→Holds ps→zk7 bs L m=m'
 | [],m',ps,h,_=>by simp only [pfrM,Option.some.injEq,Prod.mk.injEq] at h; exact h.1
 | (j,e) :: r,m',ps,h,hh=>by
   simp only [pfrM] at h
   simp only [zk7]
   split at h
   · rename_i hc
     rw [if_pos hc]
     exact zpH r m' ps h hh
   · rename_i hc
     rw [if_neg hc]
     split at h
     · rename_i e' p1 r' p2 h1 h2
       simp only [Option.some.injEq,Prod.mk.injEq] at h
       obtain ⟨rfl,rfl⟩:=h
       rw [zb0] at hh
       rw [pfrE_sound h1 hh.1,zpH r r' p2 h2 hh.2]
     · cases h
def zlz (bs:List Nat) (st:St):Option (St×List Prop):=
 match bs with
 | []=>some (st,[])
 | bs=>match pfrT bs (look st.m) st.t,pfrM bs (look st.m) st.m with
   | some (t,ps),some (m,qs)=>some (⟨t,m⟩,ps++qs)
   | _,_=>none
theorem zng {bs:List Nat} {st st':St} {ps:List Prop} (h:zlz bs st=some (st',ps)) (hh:Holds ps):zdb bs st=st':=by
 cases bs with
 | nil =>
   simp only [zlz,Option.some.injEq,Prod.mk.injEq] at h
   exact h.1
 | cons b bs =>
   simp only [zlz] at h
   split at h
   · rename_i t p1 m p2 h1 h2
     simp only [Option.some.injEq,Prod.mk.injEq] at h
     obtain ⟨rfl,rfl⟩:=h
     rw [zb0] at hh
     simp only [zdb]
     rw [zth _ _ _ h1 hh.1,zpH _ _ _ h2 hh.2]
   · cases h
def zo8 (l:List Nat) (st:St):Option (St×List Prop):=
 match l with
 | []=>some (st,[])
 | l=>if (fzIds l st).all (fun b=>decide (b < 1000) && (look st.m b).isSome)=true then zlz (fzIds l st) st else none
theorem zoR {l:List Nat} {st st':St} {ps:List Prop} (h:zo8 l st=some (st',ps)) (hh:Holds ps):zk5 l st=st':=by
 unfold zo8 at h
 unfold zk5
 split at h
 · simp only [Option.some.injEq,Prod.mk.injEq] at h
   exact h.1
 · split at h
   · rename_i hc
     simp only
     rw [if_pos hc]
     exact zng h hh
   · cases h
def ptidy (A:Ann) (id:Nat) (st:St):Option (St×List Prop):=
 match zo8 (A.fz id) st with
 | none=>none
 | some (st,p0)=>match zlI (A.own id) st with
  | none=>none
  | some (st,ps)=>match zlM (A.cel id) st with
   | st=>match A.live id with
    | some l=>match delAll (deadIds { st with t:=zgU l st.t }) { st with t:=zgU l st.t } with
      | ⟨t,m⟩=>some (⟨t,sortM m⟩,p0++ps)
    | none=>some (st,p0++ps)
theorem zx3 {A:Ann} {id:Nat} {st st':St} {ps:List Prop} (h:ptidy A id st=some (st',ps)) (hh:Holds ps):tidy A id st=st':=by
 unfold ptidy at h
 cases h0:zo8 (A.fz id) st with
 | none=>simp [h0] at h
 | some q0 =>
   obtain ⟨st0,p0⟩:=q0
   simp only [h0] at h
   cases h1:zlI (A.own id) st0 with
   | none=>simp [h1] at h
   | some q =>
     obtain ⟨st1,p1⟩:=q
     simp only [h1] at h
     unfold tidy
     split at h
     · rename_i l hl
       simp only [Option.some.injEq,Prod.mk.injEq] at h
       obtain ⟨rfl,rfl⟩:=h
       rw [zb0] at hh
       simp only
       rw [zoR h0 hh.1,zmp _ _ _ _ h1 hh.2,hl]
     · rename_i hl
       simp only [Option.some.injEq,Prod.mk.injEq] at h
       obtain ⟨rfl,rfl⟩:=h
       rw [zb0] at hh
       simp only
       rw [zoR h0 hh.1,zmp _ _ _ _ h1 hh.2,hl]
inductive It where
 | code (c:Code)
 | inBlock (id:Nat)
 | inLoop (c:Code)
structure Fr where
 P:Program
 C:Cfg
 F:AnnF
 f:FuncId
 fn:Func
 ms:Mem
noncomputable def Fr.ev (R:Fr) (c:Code) (st:St):Option (Ex×St):=aeval R.P R.C (R.F R.f) R.fn.ntmps (callw R.P R.C R.F) itw c st
noncomputable def run (R:Fr):List It→Ex→St→Option (AV×Mem)
 | [],e,st=>zk1 R.P (R.F R.f).frz R.fn R.ms (some (e,st))
 | .code c :: k,.normal,st=>match R.ev c st with
   | some (e,st')=>run R k e st'
   | none=>none
 | .inLoop c :: k,.normal,st=>match itw (R.ev c) st with
   | some (e,st')=>run R k e st'
   | none=>none
 | .inBlock id :: k,.exit j,st=>if j=id then run R k .normal st else run R k (.exit j) st
 | .inBlock _ :: k,.normal,st=>run R k .normal st
 | _ :: k,e,st=>run R k e st
theorem zo5 (R:Fr):∀ (k:List It) (st:St),run R k .ret st=zk1 R.P (R.F R.f).frz R.fn R.ms (some (.ret,st))
 | [],_=>rfl
 | .code _ :: k,st=>zo5 R k st
 | .inLoop _ :: k,st=>zo5 R k st
 | .inBlock _ :: k,st=>zo5 R k st
def dropTo (id:Nat):List It→Option (List It)
 | []=>none
 | .inBlock j :: k=>if id=j then some k else dropTo id k
 | _ :: k=>dropTo id k
theorem zpt (R:Fr) (id:Nat):∀ (k k':List It) (st:St),dropTo id k=some k'→run R k (.exit id) st=run R k' .normal st
 | [],k',st,h=>by simp [dropTo] at h
 | .code c :: k,k',st,h=>zpt R id k k' st h
 | .inLoop c :: k,k',st,h=>zpt R id k k' st h
 | .inBlock j :: k,k',st,h=>by
   simp only [dropTo] at h
   simp only [run]
   split at h
   · rename_i hj
     injection h with h
     subst h
     rw [if_pos hj]
   · rename_i hj
     rw [if_neg hj]
     exact zpt R id k k' st h
def pout (frz:Bool) (m:Mem) (a:AV):Option (AV×List Prop):=
 let L:Nat→Option Ent:=fun b=>if b < 1000 then look m b else none
 match a with
 | .row b z off n=>if 1000≤b then (if frz=false∧(look m b).isSome=true then some (.row b z off n,[]) else none) else match L b with
   | some ent=>if frz=false∧ent.z=z∧off=0∧ent.box=false∧0 < z then some (.new z ent.e ent.es,[n=ent.es.length]) else if frz=true then psnap L 5 (.row b z off n) else none
   | none=>none
 | .loc b z i o=>match outOf frz m (.loc b z i o) with
   | some r=>some (r,[])
   | none=>none
 | .map b=>match outOf frz m (.map b) with
   | some r=>some (r,[])
   | none=>none
 | a=>psnap L 5 a
theorem zpQ {frz:Bool} {m:Mem} {a r:AV} {ps:List Prop} (h:pout frz m a=some (r,ps)) (hh:Holds ps):outOf frz m a=some r:=by
 unfold pout at h
 simp only at h
 cases a with
 | row b z off n =>
   simp only at h
   simp only [outOf]
   split at h
   · rename_i hge
     split at h
     case isFalse=>cases h
     rename_i hc
     simp only [Option.some.injEq,Prod.mk.injEq] at h
     obtain ⟨rfl,rfl⟩:=h
     rw [if_pos hge,if_pos hc]
   rename_i hge
   rw [if_neg hge]
   split at h
   case h_2=>cases h
   rename_i ent hl
   split at h
   · rename_i hc
     simp only [Option.some.injEq,Prod.mk.injEq] at h
     obtain ⟨rfl,rfl⟩:=h
     rw [hl]
     simp only
     rw [if_pos ⟨hc.1,hc.2.1,hc.2.2.1,hh.1,hc.2.2.2.1,hc.2.2.2.2⟩]
   · split at h
     · rename_i hf
       rw [hl]
       simp only
       rw [if_neg (by rw [hf]; simp)]
       exact zg7 5 _ _ _ h hh
     · cases h
 | loc b z i o =>
   simp only at h
   split at h
   · rename_i r' hr
     simp only [Option.some.injEq,Prod.mk.injEq] at h
     obtain ⟨rfl,rfl⟩:=h
     exact hr
   · cases h
 | map b =>
   simp only at h
   split at h
   · rename_i r' hr
     simp only [Option.some.injEq,Prod.mk.injEq] at h
     obtain ⟨rfl,rfl⟩:=h
     exact hr
   · cases h
 | _=>exact zg7 5 _ _ _ h hh
def pout1 (P:Program) (frz:Bool) (t:TypeId) (m:Mem) (a:AV):Option (AV×List Prop):=
 match a,frz with
 | .v (.slice none 0 0),false=>(match P.underlying t with
   | some (.slice e)=>(match szB P e with
     | some z=>if 0 < z then some (.new z e [],[]) else none
     | none=>none)
   | _=>none)
 | a,frz=>pout frz m (nrm P t a)
theorem zyZ {P:Program} {frz:Bool} {t:TypeId} {m:Mem} {a r:AV} {ps:List Prop} (h:pout1 P frz t m a=some (r,ps)) (hh:Holds ps):out1 P frz t m a=some r:=by
 unfold pout1 at h
 unfold out1
 split at h
 · split at h
   case h_2=>cases h
   rename_i e hu
   split at h
   case h_2=>cases h
   rename_i z hz
   split at h
   case isFalse=>cases h
   rename_i hzp
   simp only [Option.some.injEq,Prod.mk.injEq] at h
   obtain ⟨rfl,rfl⟩:=h
   simp only [hu,hz]
   rw [if_pos hzp]
 · rename_i hne
   split
   · exact absurd rfl (hne rfl)
   · exact zpQ h hh
def presult (P:Program) (frz:Bool) (fn:Func) (st:St):Option (AV×List Prop):=
 match mapO (resVar P st) fn.results.toList with
 | some [a]=>pout1 P frz (fn.resultTypes.getD 0 0) st.m a
 | some l=>pout frz st.m (.tup (nrmA P fn.resultTypes.toList l))
 | none=>none
theorem zwh {P:Program} {frz:Bool} {fn:Func} {st:St} {r:AV} {ps:List Prop} (h:presult P frz fn st=some (r,ps)) (hh:Holds ps):zkM P frz fn st=some r:=by
 unfold presult at h
 unfold zkM
 cases hl:mapO (resVar P st) fn.results.toList with
 | none=>simp [hl] at h
 | some l =>
   simp only [hl] at h
   cases l with
   | nil=>exact zpQ h hh
   | cons a l=>cases l with
     | nil=>exact zyZ h hh
     | cons b l=>exact zpQ h hh
abbrev I (n:Int):AV:=.v (.int .i64 n)
abbrev B (b:Bool):AV:=.v (.bool b)
def liveAt:List (Nat×List Nat)→Nat→Option (List Nat)
 | [],_=>none
 | (j,l) :: r,id=>if id=j then some l else liveAt r id
def atReg {α:Type}:List (Nat×List α)→Nat→List α
 | [],_=>[]
 | (j,l) :: r,id=>if id=j then l else atReg r id
def heads:Code→List It→List (List It)
 | .seq a b,k=>heads a (.code b :: k)++heads b k
 | .cond _ x y,k=>heads x k++heads y k
 | .block id c,k=>heads c (.inBlock id :: k)
 | .loop c,k=>(.inLoop c :: k) :: heads c (.inLoop c :: k)
 | _,_=>[]
def ptK (fn:Func) (j:Nat):List It:=
 match fn.body,j with
 | some c,0=>[.code c]
 | some c,j+1=>((heads c [])[j]?).getD []
 | none,_=>[]
end Go.Ab
