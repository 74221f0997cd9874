/- An operation looks at its operands and at the blocks that they refer to, at nothing else. -/
import Derived.Test.YtbhkcgaanaelfaaGreatAbApply
namespace Go.Ab
open Go.RowKit
theorem zid {α β:Type} {f g:α→List β}:∀ {l:List α},(∀ a∈l,f a=g a)→l.flatMap f=l.flatMap g
 | [],_=>rfl
 | a :: l,h=>by
   simp only [List.flatMap_cons]
   rw [h a (by simp),zid (fun b hb=>h b (by simp [hb]))]
theorem zlA {α β:Type} {f g:α→Option β}:∀ {l:List α},(∀ a∈l,f a=g a)→mapO f l=mapO g l
 | [],_=>rfl
 | a :: l,h=>by
   simp only [mapO]
   rw [h a (by simp),zlA (fun b hb=>h b (by simp [hb]))]
section
variable {L L':Nat→Option Ent}
theorem zvo:∀ (k:Nat) (a:AV),(∀ b∈a.ids L k,L b=L' b)→a.ids L k=a.ids L' k:=by
 intro k
 induction k with
 | zero=>intro a _; rfl
 | succ k ih =>
   intro a h
   cases a with
   | agg cs=>exact zid fun c hc=>ih c fun b hb=>h b (by simp only [AV.ids]; exact List.mem_flatMap.2 ⟨c,hc,hb⟩)
   | tup cs=>exact zid fun c hc=>ih c fun b hb=>h b (by simp only [AV.ids]; exact List.mem_flatMap.2 ⟨c,hc,hb⟩)
   | fn f cs=>exact zid fun c hc=>ih c fun b hb=>h b (by simp only [AV.ids]; exact List.mem_flatMap.2 ⟨c,hc,hb⟩)
   | loc c z i o =>
     have hc:=h c (by simp [AV.ids])
     simp only [AV.ids] at h ⊢
     rw [← hc]
     cases hl:L c with
     | none=>rfl
     | some ent =>
       simp only [hl] at h ⊢
       split
       · rename_i hb
         rw [if_pos hb] at h
         cases hi:ent.es[i]? with
         | none=>rfl
         | some cs =>
           simp only [hi] at h ⊢
           congr 1
           exact zid fun av hav=>ih av fun b hb=>h b (List.mem_cons_of_mem _ (List.mem_flatMap.2 ⟨av,hav,hb⟩))
       · rfl
   | _=>rfl
theorem ids_mono:∀ (k:Nat) (a:AV),∀ b∈a.ids L k,b∈a.ids L (k+1):=by
 intro k
 induction k with
 | zero=>intro a b hb; simp [AV.ids] at hb
 | succ k ih =>
   intro a b hb
   cases a with
   | agg cs =>
     obtain ⟨c,hc,hb⟩:=List.mem_flatMap.1 hb
     exact List.mem_flatMap.2 ⟨c,hc,ih c b hb⟩
   | tup cs =>
     obtain ⟨c,hc,hb⟩:=List.mem_flatMap.1 hb
     exact List.mem_flatMap.2 ⟨c,hc,ih c b hb⟩
   | fn f cs =>
     obtain ⟨c,hc,hb⟩:=List.mem_flatMap.1 hb
     exact List.mem_flatMap.2 ⟨c,hc,ih c b hb⟩
   | row c z o n=>simpa [AV.ids] using hb
   | map c=>simpa [AV.ids] using hb
   | loc c z i o =>
     simp only [AV.ids,List.mem_cons] at hb ⊢
     rcases hb with hb | hb
     · exact .inl hb
     · refine .inr ?_
       cases hl:L c with
       | none=>simp [hl] at hb
       | some ent =>
         simp only [hl] at hb ⊢
         split at hb
         · rename_i hbx
           rw [if_pos hbx]
           cases hi:ent.es[i]? with
           | none=>simp [hi] at hb
           | some cs =>
             simp only [hi] at hb ⊢
             obtain ⟨av,hav,hb⟩:=List.mem_flatMap.1 hb
             exact List.mem_flatMap.2 ⟨av,hav,ih av b hb⟩
         · cases hb
   | _=>simp [AV.ids] at hb
theorem ztW:∀ (k:Nat) (a:AV),(∀ b∈a.ids L k,L b=L' b)→snap L k a=snap L' k a:=by
 intro k
 induction k with
 | zero=>intro a _; rfl
 | succ k ih =>
   intro a h
   cases a with
   | agg cs=>simp only [snap]; rw [zlA fun c hc=>ih c (fun b hb=>h b (by simp only [AV.ids]; exact List.mem_flatMap.2 ⟨c,hc,hb⟩))]
   | tup cs=>simp only [snap]; rw [zlA fun c hc=>ih c (fun b hb=>h b (by simp only [AV.ids]; exact List.mem_flatMap.2 ⟨c,hc,hb⟩))]
   | fn f cs=>simp only [snap]; rw [zlA fun c hc=>ih c (fun b hb=>h b (by simp only [AV.ids]; exact List.mem_flatMap.2 ⟨c,hc,hb⟩))]
   | row b z off n=>simp only [snap]; rw [h b (by simp [AV.ids])]
   | map b=>simp only [snap]; rw [h b (by simp [AV.ids])]
   | loc b z i o =>
     have hb:=h b (by simp [AV.ids])
     simp only [snap]
     rw [← hb]
     cases hl:L b with
     | none=>rfl
     | some ent =>
       simp only
       split
       · cases hi:ent.es[i]? with
         | none=>rfl
         | some cs =>
           simp only
           cases hbx:ent.box with
           | true =>
             simp only [if_true]
             rw [zlA fun av hav=>?_]
             refine ih av (fun c hc=>h c ?_)
             simp only [AV.ids,hl,hbx,if_true,hi]
             exact List.mem_cons_of_mem _ (List.mem_flatMap.2 ⟨av,hav,hc⟩)
           | false=>rfl
       · rfl
   | _=>rfl
theorem zoI {wr:List Nat}:∀ (args:List AV) (k:Nat),(∀ a∈args,∀ b∈a.ids L 5,L b=L' b)→zb3 L wr k args=zb3 L' wr k args
 | [],_,_=>rfl
 | a :: r,k,h=>by
   simp only [zb3]
   rw [zoI r (k+1) (fun c hc=>h c (by simp [hc]))]
   have ha:=h a (by simp)
   rw [ztW 5 a ha,zvo 5 a ha]
   cases zb3 L' wr (k+1) r with
   | none=>rfl
   | some q =>
     obtain ⟨as,ms,bk,fz⟩:=q
     simp only
     split
     · cases a with
       | loc b z i o =>
         have hb:=ha b (by simp [AV.ids])
         cases i with
         | zero=>cases o with
           | zero=>simp only; rw [hb]
           | succ o=>rfl
         | succ i=>rfl
       | row b z off n=>simp only; rw [ha b (by simp [AV.ids])]
       | map b=>simp only; rw [ha b (by simp [AV.ids])]
       | _=>rfl
     · split
       · cases a with
         | row b z off n =>
           have hb:=ha b (by simp [AV.ids])
           cases off with
           | zero=>simp only; rw [hb]
           | succ o=>rfl
         | _=>rfl
       · rfl
theorem zse {C:Cfg} {call:za6} {d:Option Nat} {f:FuncId} {args:List AV} (h:∀ a∈args,∀ b∈a.ids L 5,L b=L' b):aCall C call L d f args=aCall C call L' d f args:=by
 unfold aCall
 rw [zoI args 0 h]
theorem zu1 {z:Nat} {a:AV} (h:∀ b∈a.ids L 5,L b=L' b):srcOf L z a=srcOf L' z a:=by
 cases a with
 | row b z' off n=>simp only [srcOf]; rw [h b (by simp [AV.ids])]
 | v x=>cases x with
   | slice A l c=>cases A <;> cases l <;> cases c <;> rfl
   | _=>rfl
 | _=>rfl
theorem zvi {a:AV} (h:∀ b∈a.ids L 5,L b=L' b):mesOf L a=mesOf L' a:=by
 cases a with
 | map b=>simp only [mesOf]; rw [h b (by simp [AV.ids])]
 | v x=>cases x with
   | map r=>cases r <;> rfl
   | _=>rfl
 | _=>rfl
theorem zsx {P:Program} {t:TypeId} {m k x:AV} (hm:∀ b∈m.ids L 5,L b=L' b) (hx:∀ b∈x.ids L 5,L b=L' b):aMSet P L t m k x=aMSet P L' t m k x:=by
 unfold aMSet
 have e1:∀ et,snap L 5 (nrm P et x)=snap L' 5 (nrm P et x):=fun et=>ztW 5 _ (fun b hb=>hx b (by rw [nrm_ids] at hb; exact hb))
 have e2:x.ids L 5=x.ids L' 5:=zvo 5 x hx
 cases m with
 | map b=>simp only [e1,e2]; rw [hm b (by simp [AV.ids])]
 | _=>rfl
theorem aop_congr {P:Program} {C:Cfg} {M:List Nat} {call:za6} {o:Oper} {E E':Operand→AV} (hE:∀ x∈o.op.operands,E x=E' x) (hL:∀ b∈zjH o E L,L b=L' b) :
  aop P C M call o E L=aop P C M call o E' L':=by
 have hd:∀ d,o.dst=some d→L d=L' d:=fun d h=>hL d (by simp [zjH,h])
 have hx6:stills o.op=false→∀ x∈o.op.operands,∀ b∈(E x).ids L 6,L b=L' b:=fun hs x hx b hb=>hL b (by
  simp only [zjH,List.mem_append,hs,Bool.false_eq_true,if_false]
  exact .inr (List.mem_flatMap.2 ⟨x,by simpa using hx,hb⟩))
 have hx:stills o.op=false→∀ x∈o.op.operands,∀ b∈(E x).ids L 5,L b=L' b:=fun hs x hx b hb=>hx6 hs x hx b (ids_mono 5 _ b hb)
 have hpure:(∀ cs b,o.op≠.select cs b)→aPure P o E=aPure P o E':=by
  intro hs
  unfold aPure
  have h1:o.op.operands.toList.all (fun x=>(E x).toVal.isSome)=o.op.operands.toList.all (fun x=>(E' x).toVal.isSome):=by
   rw [Bool.eq_iff_iff,List.all_eq_true,List.all_eq_true]
   exact ⟨fun h x hx=>by rw [← hE x (by simpa using hx)]; exact h x hx,fun h x hx=>by rw [hE x (by simpa using hx)]; exact h x hx⟩
  rw [h1,execOp_congr o hs (fun x hx=>by rw [hE x hx])]
 have hparts:∀ ps:Array (Nat×Operand),(∀ p∈ps,p.2∈o.op.operands)→(ps.toList.map fun p=>(p.1,E p.2))=(ps.toList.map fun p=>(p.1,E' p.2)):=fun ps hp =>
  List.map_congr_left fun p hm=>by rw [hE p.2 (hp p (by simpa using hm))]
 have hpartsN:∀ (t:TypeId) (ps:Array (Nat×Operand)),(∀ p∈ps,p.2∈o.op.operands)→(ps.toList.map fun p=>(p.1,nrmP P t (E p.2)))=(ps.toList.map fun p=>(p.1,nrmP P t (E' p.2))):=fun t ps hp =>
  List.map_congr_left fun p hm=>by rw [hE p.2 (hp p (by simpa using hm))]
 have hopt:∀ q:Option Operand,(∀ y,q=some y→y∈o.op.operands)→q.map E=q.map E':=fun q hq=>by
  cases q with
  | none=>rfl
  | some y=>simp only [Option.map_some]; rw [hE y (hq y rfl)]
 have hlist:∀ l:List Operand,(∀ x∈l,x∈o.op.operands)→l.map E=l.map E':=fun l hl=>List.map_congr_left fun x hm=>hE x (hl x hm)
 unfold aop
 cases ho:o.op with
 | move x=>simp only; rw [hE x (by simp [ho,Op.operands])]
 | assign x=>simp only; rw [hE x (by simp [ho,Op.operands])]
 | pick c a b=>simp only; rw [hE c (by simp [ho,Op.operands]),hE a (by simp [ho,Op.operands]),hE b (by simp [ho,Op.operands])]
 | alloc t =>
   simp only
   cases hq:o.dst with
   | none=>rfl
   | some d=>cases zeroB P t <;> cases szB P t <;> first | rfl | (simp only; rw [hd d hq])
 | box t x =>
   simp only
   rw [hE x (by simp [ho,Op.operands])]
   cases hq:o.dst with
   | none=>rfl
   | some d=>simp only; rw [hd d hq]
 | build t ps=>simp only; rw [hparts ps (fun p hp=>by simp [ho,Op.operands]; exact ⟨p.1,by simpa using hp⟩)]
 | buildSlice t len ps =>
   simp only
   rw [hpartsN t ps (fun p hp=>by simp [ho,Op.operands]; exact ⟨p.1,by simpa using hp⟩)]
   cases hq:o.dst with
   | none=>rfl
   | some d=>simp only; rw [hd d hq]
 | load t a =>
   simp only
   rw [← hE a (by simp [ho,Op.operands])]
   have h:=hx (by rw [ho]; rfl) a (by simp [ho,Op.operands])
   cases hq:E a with
   | loc b z i oo=>rw [hq] at h; simp only [aLoad]; rw [h b (by simp [AV.ids])]
   | _=>rfl
 | store t a x =>
   simp only
   rw [← hE a (by simp [ho,Op.operands]),← hE x (by simp [ho,Op.operands])]
   have h:=hx (by rw [ho]; rfl) a (by simp [ho,Op.operands])
   cases hq:E a with
   | loc b z i oo =>
     rw [hq] at h
     have hb:=h b (by simp [AV.ids])
     have hn:nrmS P L t (.loc b z i oo) (E x)=nrmS P L' t (.loc b z i oo) (E x):=by simp only [nrmS]; rw [hb]
     rw [hn]
     generalize nrmS P L' t (.loc b z i oo) (E x)=q
     simp only [aStore]
     rw [hb]
   | _=>rfl
 | nilCheck x=>simp only; rw [hE x (by simp [ho,Op.operands])]
 | extract x i=>simp only; rw [hE x (by simp [ho,Op.operands])]
 | fieldAddr s x f=>simp only; rw [hE x (by simp [ho,Op.operands])]
 | field s x f=>simp only; rw [hE x (by simp [ho,Op.operands])]
 | indexAddr t x ix=>simp only; rw [hE x (by simp [ho,Op.operands]),hE ix (by simp [ho,Op.operands])]
 | index t x ix=>simp only; rw [hE x (by simp [ho,Op.operands]),hE ix (by simp [ho,Op.operands]),hpure (by simp [ho])]
 | slice t x lo hi mx =>
   cases mx with
   | none =>
     simp only
     rw [hE x (by simp [ho,Op.operands]),hpure (by simp [ho]),hopt lo (fun y hy=>by simp [ho,Op.operands,hy]),hopt hi (fun y hy=>by simp [ho,Op.operands,hy])]
   | some m=>simp only; exact hpure (by simp [ho])
 | makeFunc fn first cap =>
   cases fn with
   | func f=>simp only; rw [hlist cap.toList (fun x hm=>by simp [ho,Op.operands]; exact .inr (by simpa using hm))]
   | _=>simp only; exact hpure (by simp [ho])
 | makeSlice t l c =>
   simp only
   rw [hE l (by simp [ho,Op.operands]),hE c (by simp [ho,Op.operands])]
   cases hq:o.dst with
   | none=>rfl
   | some d=>simp only; rw [hd d hq]
 | call c =>
   obtain ⟨callee,args,argTypes⟩:=c
   cases callee with
   | value g =>
     simp only
     rw [← hE g (by simp [ho,Op.operands,Call.operands]),← hpure (by simp [ho])]
     have hargs:=hlist args.toList (fun x hm=>by simp [ho,Op.operands,Call.operands]; exact .inr (by simpa using hm))
     rw [← hargs]
     have hg:=hx6 (by rw [ho]; rfl) g (by simp [ho,Op.operands,Call.operands])
     cases hq:E g with
     | fn f cap =>
       simp only
       have hcall:∀ a∈nrmA P argTypes.toList (args.toList.map E)++cap,∀ b∈a.ids L 5,L b=L' b:=by
        intro a ha b hb
        rcases List.mem_append.1 ha with ha | ha
        · obtain ⟨j,hj⟩:=List.mem_iff_getElem?.1 ha
          obtain ⟨a0,ha0,hc⟩:=zpF P _ _ j a hj
          have hb0:b∈a0.ids L 5:=by
           rcases hc with rfl | ⟨t,rfl⟩
           · exact hb
           · rw [nrm_ids] at hb; exact hb
          obtain ⟨x,hxm,rfl⟩:=List.mem_map.1 (List.mem_of_getElem? ha0)
          replace hb:=hb0
          exact hx (by rw [ho]; rfl) x (by simp [ho,Op.operands,Call.operands]; exact .inr (by simpa using hxm)) b hb
        · rw [hq] at hg
          exact hg b (by simp only [AV.ids]; exact List.mem_flatMap.2 ⟨a,ha,hb⟩)
       cases hdq:o.dst with
       | none=>simp only; rw [zse hcall]
       | some d=>simp only; rw [hd d hdq,zse hcall]
     | _=>rfl
   | invoke r m=>simp only; exact hpure (by simp [ho])
   | builtin bi =>
     cases bi with
     | append =>
       simp only
       cases hdq:o.dst with
       | none=>rfl
       | some d =>
         cases ha:args.toList with
         | nil=>rfl
         | cons s l=>cases l with
           | nil=>rfl
           | cons x l=>cases l with
             | cons _ _=>rfl
             | nil=>cases ht:argTypes.toList with
               | nil=>rfl
               | cons t l=>cases l with
                 | nil=>rfl
                 | cons t' l=>cases l with
                   | cons _ _=>rfl
                   | nil =>
                     simp only
                     rw [hd d hdq]
                     have hs:=hE s (by simp [ho,Op.operands,Call.operands]; rw [← Array.mem_toList_iff,ha]; simp)
                     have hxx:=hE x (by simp [ho,Op.operands,Call.operands]; rw [← Array.mem_toList_iff,ha]; simp)
                     have is:=hx (by rw [ho]; rfl) s (by simp [ho,Op.operands,Call.operands]; rw [← Array.mem_toList_iff,ha]; simp)
                     have ix:=hx (by rw [ho]; rfl) x (by simp [ho,Op.operands,Call.operands]; rw [← Array.mem_toList_iff,ha]; simp)
                     rw [← hs,← hxx]
                     have hsrc:∀ z,srcOf L z (E x)=srcOf L' z (E x):=fun z=>zu1 ix
                     have:ziy P L d t (E s) (E x)=ziy P L' d t (E s) (E x):=by
                      unfold ziy
                      simp only [hsrc]
                      cases P.underlying t with
                      | none=>rfl
                      | some td =>
                        cases td with
                        | slice e =>
                          simp only
                          cases P.info? e with
                          | none=>rfl
                          | some i =>
                            cases zeroB P e with
                            | none=>rfl
                            | some zero =>
                              simp only
                              split
                              · cases srcOf L' i.size (E x) with
                                | none=>rfl
                                | some new =>
                                  simp only
                                  cases hq:E s with
                                  | row b z off n=>rw [hq] at is; simp only; rw [is b (by simp [AV.ids])]
                                  | v y=>cases y with
                                    | slice A l c=>cases A <;> cases l <;> cases c <;> rfl
                                    | _=>rfl
                                  | _=>rfl
                              · rfl
                        | _=>rfl
                     rw [this]
     | copy =>
       simp only
       split
       · rename_i s x t tr ha ht
         have hs:=hE s (by simp [ho,Op.operands,Call.operands]; rw [← Array.mem_toList_iff,ha]; simp)
         have hxx:=hE x (by simp [ho,Op.operands,Call.operands]; rw [← Array.mem_toList_iff,ha]; simp)
         have is:=hx (by rw [ho]; rfl) s (by simp [ho,Op.operands,Call.operands]; rw [← Array.mem_toList_iff,ha]; simp)
         have ix:=hx (by rw [ho]; rfl) x (by simp [ho,Op.operands,Call.operands]; rw [← Array.mem_toList_iff,ha]; simp)
         rw [← hs,← hxx]
         unfold aCopy
         have hsrc:∀ z,srcOf L z (E x)=srcOf L' z (E x):=fun z=>zu1 ix
         simp only [hsrc]
         cases hu:P.underlying t with
         | none=>rfl
         | some td =>
           cases td with
           | slice e =>
             simp only
             cases hz:szB P e with
             | none=>rfl
             | some sz =>
               cases hq:E s with
               | row b z off n=>rw [hq] at is; simp only; rw [is b (by simp [AV.ids])]
               | _=>rfl
           | _=>rfl
       · rfl
     | clear =>
       simp only
       split
       · rename_i s t tr ha ht
         have hs:=hE s (by simp [ho,Op.operands,Call.operands]; rw [← Array.mem_toList_iff,ha]; simp)
         have is:=hx (by rw [ho]; rfl) s (by simp [ho,Op.operands,Call.operands]; rw [← Array.mem_toList_iff,ha]; simp)
         rw [← hs]
         unfold aClear
         cases hu:P.underlying t with
         | none=>rfl
         | some td =>
           cases td with
           | slice e =>
             simp only
             cases hz:szB P e with
             | none=>rfl
             | some sz =>
               cases hzz:zeroB P e with
               | none=>rfl
               | some zero =>
                 cases hq:E s with
                 | row b z off n=>rw [hq] at is; simp only; rw [is b (by simp [AV.ids])]
                 | _=>rfl
           | _=>rfl
       · rfl
     | len =>
       simp only
       split
       · rename_i s t ha ht
         have hs:=hE s (by simp [ho,Op.operands,Call.operands]; rw [← Array.mem_toList_iff,ha]; simp)
         have is:=hx (by rw [ho]; rfl) s (by simp [ho,Op.operands,Call.operands]; rw [← Array.mem_toList_iff,ha]; simp)
         have hme:aMLen L (E s)=aMLen L' (E s):=by unfold aMLen; rw [zvi is]
         rw [← hs,hpure (by simp [ho])]
         revert hme
         generalize E s=q
         intro hme
         generalize P.underlying t=u
         cases q <;> first | rfl | (cases u with
          | none=>rfl
          | some td=>cases td <;> first | rfl | exact hme)
       · rfl
     | delete =>
       simp only
       split
       · rename_i m k t tr ha ht
         have hs:=hE m (by simp [ho,Op.operands,Call.operands]; rw [← Array.mem_toList_iff,ha]; simp)
         have hk:=hE k (by simp [ho,Op.operands,Call.operands]; rw [← Array.mem_toList_iff,ha]; simp)
         have is:=hx (by rw [ho]; rfl) m (by simp [ho,Op.operands,Call.operands]; rw [← Array.mem_toList_iff,ha]; simp)
         rw [← hs,← hk]
         unfold aMDel
         cases hq:E m with
         | map b=>rw [hq] at is; simp only; rw [is b (by simp [AV.ids])]
         | _=>rfl
       · rfl
     | _=>simp only; exact hpure (by simp [ho])
 | makeMap t q =>
   cases q with
   | some r=>simp only; exact hpure (by simp [ho])
   | none =>
     simp only
     cases hq:o.dst with
     | none=>rfl
     | some d=>simp only; rw [hd d hq]
 | lookup t m k ok =>
   simp only
   rw [← hE m (by simp [ho,Op.operands]),← hE k (by simp [ho,Op.operands])]
   unfold aMLook
   rw [zvi (hx (by rw [ho]; rfl) m (by simp [ho,Op.operands]))]
 | mapUpdate t m k x =>
   simp only
   rw [← hE m (by simp [ho,Op.operands]),← hE k (by simp [ho,Op.operands]),← hE x (by simp [ho,Op.operands])]
   exact zsx (hx (by rw [ho]; rfl) m (by simp [ho,Op.operands])) (hx (by rw [ho]; rfl) x (by simp [ho,Op.operands]))
 | insert t m k x =>
   simp only
   rw [← hE m (by simp [ho,Op.operands]),← hE k (by simp [ho,Op.operands]),← hE x (by simp [ho,Op.operands])]
   exact zsx (hx (by rw [ho]; rfl) m (by simp [ho,Op.operands])) (hx (by rw [ho]; rfl) x (by simp [ho,Op.operands]))
 | binOp op t x y u=>simp only; rw [hE x (by simp [ho,Op.operands]),hE y (by simp [ho,Op.operands]),hpure (by simp [ho])]
 | select cs b=>rfl
 | _=>simp only; exact hpure (by simp [ho])
end
end Go.Ab
