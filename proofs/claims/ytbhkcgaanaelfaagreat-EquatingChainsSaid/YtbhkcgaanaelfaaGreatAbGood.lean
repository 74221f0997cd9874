/- One operation keeps the whole state. -/
import Derived.Test.YtbhkcgaanaelfaaGreatAbStep
namespace Go.Ab
open Go.RowKit
structure Shape (o:Oper) (L:Nat→Option Ent) (r:Res):Prop where
 kill:∀ b,r.kill=some b→b ∉ ids r.set∧b < 1000
 set:∀ b∈ids r.set,(L b).isSome=true∨o.dst=some b
 frz:∀ b∈r.frz,b < 1000
theorem Shape.none {o:Oper} {L:Nat→Option Ent} {r:Res} (h1:r.set=[]) (h2:r.kill=none) (h3:r.frz=[]):Shape o L r:=
 ⟨(fun b h=>by rw [h2] at h; cases h),(fun b h=>by simp [ids,h1] at h),(fun b h=>by rw [h3] at h; cases h)⟩
theorem Shape.one {o:Oper} {L:Nat→Option Ent} {r:Res} {d:Nat} {e:Ent} (h1:r.set=[(d,e)]) (hd:(L d).isSome=true∨o.dst=some d) (h2:∀ b,r.kill=some b→b≠d∧b < 1000) (h3:r.frz=[]):Shape o L r:=
 ⟨fun b h=>⟨(fun hm=>by simp [ids,h1] at hm; exact (h2 b h).1 hm),(h2 b h).2⟩,(fun b h=>by simp [ids,h1] at h; subst h; exact hd),(fun b h=>by rw [h3] at h; cases h)⟩
theorem zsb {L:Nat→Option Ent} {wr:List Nat}:∀ (args:List AV) (k:Nat) (as:List AV) (ms:Mem) (bk:List (Nat×Nat)) (fz:List Nat),zb3 L wr k args=some (as,ms,bk,fz)→∀ p∈bk,(L p.1).isSome=true:=by
 intro args
 induction args with
 | nil =>
   intro k as ms bk fz h p hp
   simp [zb3] at h
   obtain ⟨_,_,rfl,_⟩:=h
   cases hp
 | cons a r ih =>
   intro k as ms bk fz h p hp
   simp only [zb3] at h
   cases hr:zb3 L wr (k+1) r with
   | none=>simp [hr] at h
   | some q =>
     obtain ⟨as0,ms0,bk0,fz0⟩:=q
     simp only [hr] at h
     have i:=ih (k+1) as0 ms0 bk0 fz0 hr
     split at h
     · split at h
       · rename_i b z
         cases hl:L b with
         | none=>simp [hl] at h
         | some ent =>
           simp only [hl] at h
           split at h
           case isFalse=>cases h
           simp only [Option.some.injEq,Prod.mk.injEq] at h
           obtain ⟨_,_,rfl,_⟩:=h
           rcases List.mem_cons.1 hp with rfl | hp
           · simp [hl]
           · exact i p hp
       · rename_i b z off n
         cases hl:L b with
         | none=>simp [hl] at h
         | some ent =>
           simp only [hl] at h
           split at h
           case isFalse=>cases h
           simp only [Option.some.injEq,Prod.mk.injEq] at h
           obtain ⟨_,_,rfl,_⟩:=h
           rcases List.mem_cons.1 hp with rfl | hp
           · simp [hl]
           · exact i p hp
       · rename_i b
         cases hl:L b with
         | none=>simp [hl] at h
         | some ent =>
           simp only [hl] at h
           split at h
           case isFalse=>cases h
           simp only [Option.some.injEq,Prod.mk.injEq] at h
           obtain ⟨_,_,rfl,_⟩:=h
           rcases List.mem_cons.1 hp with rfl | hp
           · simp [hl]
           · exact i p hp
       · cases h
     · split at h
       · split at h
         · rename_i b z n
           cases hl:L b with
           | none=>simp [hl] at h
           | some ent =>
             simp only [hl] at h
             split at h
             case isFalse=>cases h
             simp only [Option.some.injEq,Prod.mk.injEq] at h
             obtain ⟨_,_,rfl,_⟩:=h
             rcases List.mem_cons.1 hp with rfl | hp
             · simp [hl]
             · exact i p hp
         · cases h
       cases hs:snap L 5 a with
       | none=>simp [hs] at h
       | some a' =>
         simp only [hs,Option.some.injEq,Prod.mk.injEq] at h
         obtain ⟨_,_,rfl,_⟩:=h
         exact i p hp
theorem zuO {L:Nat→Option Ent} {wr:List Nat} {args:List AV} {k:Nat} {as:List AV} {ms:Mem} {bk:List (Nat×Nat)} {fz:List Nat} (h:zb3 L wr k args=some (as,ms,bk,fz)) :
  (∀ p∈bk,p.2 < 1000→p.1 < 1000)∧(bk.map (·.1)).Nodup:=by
 have key:∀ (args:List AV) (k:Nat) (as:List AV) (ms:Mem) (bk:List (Nat×Nat)) (fz:List Nat),zb3 L wr k args=some (as,ms,bk,fz)→(∀ p∈bk,p.2 < 1000→p.1 < 1000)∧(bk.map (·.1)).Nodup:=by
  intro args
  induction args with
  | nil =>
    intro k as ms bk fz h
    simp [zb3] at h
    obtain ⟨_,_,rfl,_⟩:=h
    simp
  | cons a r ih =>
    intro k as ms bk fz h
    simp only [zb3] at h
    cases hr:zb3 L wr (k+1) r with
    | none=>simp [hr] at h
    | some q =>
      obtain ⟨as0,ms0,bk0,fz0⟩:=q
      simp only [hr] at h
      obtain ⟨i1,i2⟩:=ih (k+1) as0 ms0 bk0 fz0 hr
      have cons:∀ (b m:Nat),(m < 1000→b < 1000)→(bk0.all (fun p=>p.1≠b))=true→(∀ p∈(b,m) :: bk0,p.2 < 1000→p.1 < 1000)∧(((b,m) :: bk0).map (·.1)).Nodup:=by
       intro b m hbm hall
       refine ⟨fun p hp=>?_,?_⟩
       · rcases List.mem_cons.1 hp with rfl | hp
         · exact hbm
         · exact i1 p hp
       · simp only [List.map_cons,List.nodup_cons]
         refine ⟨fun hm=>?_,i2⟩
         obtain ⟨q,hq,e⟩:=List.mem_map.1 hm
         have:=List.all_eq_true.1 hall q hq
         simp at this
         exact this e
      split at h
      · split at h
        · split at h
          · split at h
            · rename_i hc
              simp only [Option.some.injEq,Prod.mk.injEq] at h
              obtain ⟨_,_,rfl,_⟩:=h
              exact cons _ _ (by omega) hc.2.2.2
            · cases h
          · cases h
        · split at h
          · split at h
            · rename_i hc
              simp only [Option.some.injEq,Prod.mk.injEq] at h
              obtain ⟨_,_,rfl,_⟩:=h
              exact cons _ _ (by omega) hc.2.2.2
            · cases h
          · cases h
        · split at h
          · split at h
            · rename_i hc
              simp only [Option.some.injEq,Prod.mk.injEq] at h
              obtain ⟨_,_,rfl,_⟩:=h
              exact cons _ _ (by omega) hc.2.2
            · cases h
          · cases h
        · cases h
      · split at h
        · split at h
          · split at h
            · split at h
              · rename_i hc
                simp only [Option.some.injEq,Prod.mk.injEq] at h
                obtain ⟨_,_,rfl,_⟩:=h
                exact cons _ _ (fun _=>hc.2.2.2.2.1) hc.2.2.2.2.2.2
              · cases h
            · cases h
          · cases h
        · split at h
          · simp only [Option.some.injEq,Prod.mk.injEq] at h
            obtain ⟨_,_,rfl,_⟩:=h
            exact ⟨i1,i2⟩
          · cases h
 exact key args k as ms bk fz h
theorem zsf {C:Cfg} {call:za6} {o:Oper} {L:Nat→Option Ent} {f:FuncId} {args:List AV} {r:Res} (hdn:∀ d,o.dst=some d→(L d).isSome=false) (h:aCall C call L o.dst f args=some r):Shape o L r:=by
 unfold aCall at h
 split at h
 · cases h
 · rename_i as ms bk fz hp
   split at h
   case isFalse=>cases h
   split at h
   · cases h
   · split at h
     · cases h
     · rename_i back hback
       obtain ⟨b1,b2⟩:=zpb hback
       obtain ⟨hgv,hnd⟩:=zuO hp
       have hb:∀ b∈ids back,(L b).isSome=true:=by
        intro b hb
        rw [b1] at hb
        obtain ⟨p,hp',rfl⟩:=List.mem_map.1 hb
        exact zsb args 0 as ms bk fz hp p (zes.1 hp').1
       split at h
       case isFalse=>cases h
       rename_i hall
       have hfz:=fun b hb=>of_decide_eq_true (List.all_eq_true.1 hall b hb)
       split at h
       case h_2=>cases h
       rename_i res hres
       obtain ⟨hkr,hgk⟩:=zsd h (zq4 hres)
       subst hkr
       have hk:∀ b,(zec bk).head?=some b→b ∉ ids back∧b < 1000∧(L b).isSome=true:=by
        intro b hb'
        obtain ⟨k,q1,q2⟩:=ziw.1 ((hgk b).2 hb')
        refine ⟨fun hm=>?_,hgv _ q1 q2,zsb args 0 as ms bk fz hp _ q1⟩
        rw [b1] at hm
        obtain ⟨p,hp',e⟩:=List.mem_map.1 hm
        obtain ⟨p1,p2⟩:=zes.1 hp'
        have:p=(b,k):=by
         have nd:∀ l:List (Nat×Nat),(l.map (·.1)).Nodup→∀ x y,x∈l→y∈l→x.1=y.1→x=y:=by
          intro l hn
          induction l with
          | nil=>intro x y h; cases h
          | cons q l ihl =>
            intro x y h1 h2 e
            simp only [List.map_cons,List.nodup_cons] at hn
            rcases List.mem_cons.1 h1 with rfl | h1'
            · rcases List.mem_cons.1 h2 with rfl | h2'
              · rfl
              · exact absurd (List.mem_map.2 ⟨_,h2',e.symm⟩) hn.1
            · rcases List.mem_cons.1 h2 with rfl | h2'
              · exact absurd (List.mem_map.2 ⟨_,h1',e⟩) hn.1
              · exact ihl hn.2 x y h1' h2' e
         exact nd bk hnd p (b,k) p1 q1 e
        rw [this] at p2
        simp at p2
        omega
       have fin:∀ (v:AV) (fz':List Nat),(∀ b∈fz',b < 1000)→Shape o L { val:=v,set:=back,frz:=fz',kill:=(zec bk).head? }:=by
        intro v fz' hf
        exact ⟨fun b hk'=>⟨(hk b hk').1,(hk b hk').2.1⟩,fun b hm=>.inl (hb b hm),hf⟩
       have fin2:∀ (v:AV) (d:Nat) (e:Ent),o.dst=some d→(L d).isSome=false→∀ fz',(∀ b∈fz',b < 1000)→Shape o L { val:=v,set:=(d,e) :: back,frz:=fz',kill:=(zec bk).head? }:=by
        intro v d e hd hn fz' hf
        refine ⟨fun b hk'=>⟨fun hm=>?_,(hk b hk').2.1⟩,fun b hm=>?_,hf⟩
        · simp only [ids,List.map_cons,List.mem_cons] at hm
          rcases hm with rfl | hm
          · have:=(hk _ hk').2.2
            rw [hn] at this
            cases this
          · exact (hk b hk').1 hm
        · simp only [ids,List.map_cons,List.mem_cons] at hm
          rcases hm with rfl | hm
          · exact .inr hd
          · exact .inl (hb b hm)
       unfold zm1 at hres
       split at hres
       · injection hres with hres
         subst hres
         exact fin2 _ _ _ (by assumption) (hdn _ (by assumption)) _ hfz
       · injection hres with hres
         subst hres
         exact fin2 _ _ _ (by assumption) (hdn _ (by assumption)) _ hfz
       · injection hres with hres
         subst hres
         exact fin2 _ _ _ (by assumption) (hdn _ (by assumption)) _ hfz
       · cases hres
       · cases hres
       · cases hres
       · split at hres
         · injection hres with hres
           subst hres
           exact fin _ _ hfz
         · cases hres
       · split at hres
         · injection hres with hres
           subst hres
           exact fin _ _ hfz
         · cases hres
       · cases hres
       · injection hres with hres
         subst hres
         exact fin _ _ hfz
theorem zwF {k:Bool} {o:Oper} {L:Nat→Option Ent} {r r0:Res} (h:toKill k r0=some r) (hs:Shape o L r0):Shape o L r:=by
 unfold toKill at h
 split at h
 · rename_i b rest hf hk
   split at h
   case isFalse=>cases h
   rename_i hc
   simp only [Option.some.injEq] at h
   subst h
   refine ⟨fun c hm=>?_,hs.set,fun c hm=>by cases hm⟩
   injection hm with hm
   subst hm
   refine ⟨fun hi=>?_,hs.frz b (by rw [hf]; exact List.mem_cons_self)⟩
   obtain ⟨p,hp,e⟩:=List.mem_map.1 hi
   have:=List.all_eq_true.1 hc.2 p hp
   simp only [bne_iff_ne] at this
   exact this e
 · simp only [Option.some.injEq] at h
   subst h
   exact hs
theorem zir {P:Program} {o:Oper} {E:Operand→AV} {L:Nat→Option Ent} {r:Res} (h:aPure P o E=some r):Shape o L r:=by
 unfold aPure at h
 repeat' (split at h)
 all_goals first | (injection h with h; subst h; exact Shape.none rfl rfl rfl) | cases h
theorem zsi {P:Program} {o:Oper} {L:Nat→Option Ent} {t:TypeId} {m k x:AV} {r:Res} (h:aMSet P L t m k x=some r):Shape o L r:=by
 unfold aMSet at h
 split at h
 case h_2=>cases h
 split at h
 case h_2=>cases h
 split at h
 case h_2=>cases h
 rename_i ent hl
 split at h
 case isFalse=>cases h
 rename_i hc
 split at h
 case h_2=>cases h
 split at h
 case isFalse=>cases h
 split at h
 case h_2=>cases h
 injection h with h
 subst h
 refine ⟨(fun b hk=>by cases hk),(fun b hm=>by simp [ids] at hm; subst hm; exact .inl (by simp [hl])),fun b hb=>?_⟩
 have:=List.all_eq_true.1 hc.2.2.2 b hb
 simp only [Bool.and_eq_true,decide_eq_true_eq] at this
 exact this.1
theorem aop_shape {P:Program} {C:Cfg} {M:List Nat} {call:za6} {o:Oper} {E:Operand→AV} {L:Nat→Option Ent} {r:Res} (h:aop P C M call o E L=some r):Shape o L r:=by
 unfold aop at h
 split at h
 all_goals try (first
  | exact zir h
  | (injection h with h; subst h; exact Shape.none rfl rfl rfl)
  | cases h)
 · repeat' (split at h)
   all_goals first | (injection h with h; subst h; exact Shape.none rfl rfl rfl) | cases h
 · split at h
   case h_2=>cases h
   rename_i d zero n hd hz hn
   split at h
   case isFalse=>cases h
   split at h
   · unfold aArr at h
     repeat' (split at h)
     all_goals first | (injection h with h; subst h; exact Shape.one rfl (.inr hd) (fun b hk=>by cases hk) rfl) | cases h
   injection h with h
   subst h
   exact Shape.one rfl (.inr hd) (fun b hk=>by cases hk) rfl
 · split at h
   case h_2=>cases h
   rename_i d hd
   split at h
   case isFalse=>cases h
   injection h with h
   subst h
   exact Shape.one rfl (.inr hd) (fun b hk=>by cases hk) rfl
 · unfold aBuild at h
   repeat' (split at h)
   all_goals first | (injection h with h; subst h; exact Shape.none rfl rfl rfl) | cases h
 · split at h
   case h_2=>cases h
   rename_i d hd
   split at h
   · split at h
     case isFalse=>cases h
     unfold zkd at h
     repeat' (split at h)
     all_goals first | (injection h with h; subst h; exact Shape.one rfl (.inr hd) (fun b hk=>by cases hk) rfl) | cases h
   · unfold aLit at h
     repeat' (split at h)
     all_goals first | (injection h with h; subst h; exact Shape.none rfl rfl rfl) | cases h
 · unfold aLoad at h
   repeat' (split at h)
   all_goals first | (injection h with h; subst h; exact Shape.none rfl rfl rfl) | cases h
 · unfold aStore at h
   split at h
   case h_2=>cases h
   split at h
   case h_2=>cases h
   rename_i ent n hl hs
   split at h
   case isFalse=>cases h
   split at h
   case h_2=>cases h
   split at h
   case isFalse=>cases h
   injection h with h
   subst h
   exact Shape.one rfl (.inl (by simp [hl])) (fun b hk=>by cases hk) rfl
 · repeat' (split at h)
   all_goals first | (injection h with h; subst h; exact Shape.none rfl rfl rfl) | cases h
 · repeat' (split at h)
   all_goals first | (injection h with h; subst h; exact Shape.none rfl rfl rfl) | cases h
 · unfold aField at h
   repeat' (split at h)
   all_goals first | (injection h with h; subst h; exact Shape.none rfl rfl rfl) | cases h
 · repeat' (split at h)
   all_goals first | (injection h with h; subst h; exact Shape.none rfl rfl rfl) | cases h
 · unfold aIndex at h
   repeat' (split at h)
   all_goals first | (injection h with h; subst h; exact Shape.none rfl rfl rfl) | cases h
 · repeat' (split at h)
   all_goals first | exact zir h | (injection h with h; subst h; exact Shape.none rfl rfl rfl) | cases h
 · split at h
   · exact zir h
   · unfold aSlice at h
     repeat' (split at h)
     all_goals first | (injection h with h; subst h; exact Shape.none rfl rfl rfl) | cases h
 · split at h
   · injection h with h
     subst h
     exact Shape.none rfl rfl rfl
   · cases h
 · split at h
   case h_2=>cases h
   rename_i d hd
   split at h
   case isFalse=>cases h
   unfold aMake at h
   repeat' (split at h)
   all_goals first | (injection h with h; subst h; exact Shape.one rfl (.inr hd) (fun b hk=>by cases hk) rfl) | cases h
 · split at h
   case h_2=>cases h
   rename_i d s x t t' hd ha ht
   split at h
   case isFalse=>cases h
   unfold ziy at h
   repeat' (split at h)
   all_goals try (cases h; done)
   · injection h with h
     subst h
     exact Shape.one rfl (.inr hd) (fun b hk=>by cases hk) rfl
   · rename_i hc
     injection h with h
     subst h
     refine Shape.one rfl (.inr hd) (fun b hk=>?_) rfl
     injection hk with hk
     subst hk
     exact ⟨hc.2.1,hc.1⟩
 · split at h
   case h_2=>cases h
   unfold aCopy at h
   split at h
   case h_2=>cases h
   split at h
   case h_2=>cases h
   split at h
   case h_2=>cases h
   rename_i ent new hl hsrc
   split at h
   case isFalse=>cases h
   injection h with h
   subst h
   exact Shape.one rfl (.inl (by simp [hl])) (fun b hk=>by cases hk) rfl
 · split at h
   case h_2=>cases h
   unfold aClear at h
   split at h
   case h_2=>cases h
   split at h
   case h_2=>cases h
   split at h
   case h_2=>cases h
   rename_i ent hl
   split at h
   case isFalse=>cases h
   injection h with h
   subst h
   exact Shape.one rfl (.inl (by simp [hl])) (fun b hk=>by cases hk) rfl
 · split at h
   case h_2=>cases h
   split at h
   · exact zir h
   · unfold aLen at h
     repeat' (split at h)
     all_goals first | (injection h with h; subst h; exact Shape.none rfl rfl rfl) | cases h
   · unfold aMLen at h
     repeat' (split at h)
     all_goals first | (injection h with h; subst h; exact Shape.none rfl rfl rfl) | cases h
   · cases h
 · split at h
   case h_2=>cases h
   unfold aMDel at h
   split at h
   case h_2=>cases h
   split at h
   case h_2=>cases h
   split at h
   case h_2=>cases h
   rename_i ent hl
   split at h
   case isFalse=>cases h
   split at h
   case h_2=>cases h
   injection h with h
   subst h
   exact Shape.one rfl (.inl (by simp [hl])) (fun b hk=>by cases hk) rfl
 · split at h
   case h_2=>cases h
   rename_i d hd
   split at h
   case isFalse=>cases h
   unfold aMkMap at h
   split at h
   · injection h with h
     subst h
     exact Shape.one rfl (.inr hd) (fun b hk=>by cases hk) rfl
   · cases h
 · unfold aMLook at h
   repeat' (split at h)
   all_goals first | (injection h with h; subst h; exact Shape.none rfl rfl rfl) | cases h
 · exact zsi h
 · exact zsi h
 · split at h
   case h_2=>cases h
   split at h
   · exact zir h
   · split at h
     · rename_i d hd
       split at h
       case isFalse=>cases h
       rename_i hnone
       split at h
       case h_2=>cases h
       rename_i r0 hc
       rw [← hd] at hc
       refine zwF h (zsf (fun d' hd'=>?_) hc)
       rw [hd] at hd'
       injection hd' with hd'
       subst hd'
       simpa using hnone
     · rename_i hd
       rw [← hd] at h
       exact zsf (fun d' hd'=>by rw [hd] at hd'; cases hd') h
 · split at h
   · unfold aEq at h
     repeat' (split at h)
     all_goals first | (injection h with h; subst h; exact Shape.none rfl rfl rfl) | cases h
   · exact zir h
end Go.Ab
