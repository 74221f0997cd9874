/- One operation: the abstract step is right. -/
import Derived.Test.YtbhkcgaanaelfaaGreatAbMap
namespace Go.Ab
open Go.RowKit
section
variable {P:Program} {S:Nat→Prop} {κ:Kap} {D:Nat→Prop} {w:World} {L:Nat→Option Ent}
theorem zxB {k:Bool} {r r0:Res} {y:Value} {w':World} {S':Nat→Prop} {κ':Kap} (h:toKill k r0=some r) (he:EffAt S κ D w S' κ' r0 y w') (hd:Dis D r0):EffAt S κ D w S' κ' r y w'∧Dis D r:=by
 unfold toKill at h
 split at h
 · rename_i b rest hf hk
   split at h
   case isFalse=>cases h
   rename_i hc
   simp only [Option.some.injEq] at h
   subst h
   have hin:∀ c,c∈r0.frz↔c=b:=fun c=>by
    rw [hf]
    constructor
    · intro hm
      rcases List.mem_cons.1 hm with e | hm
      · exact e
      · have:=List.all_eq_true.1 hc.1 c hm
        simpa using this
    · rintro rfl; exact List.mem_cons_self
   have hD1:D1 D { r0 with frz:=[],kill:=some b }=D1 D r0:=by
    funext c
    unfold D1
    rw [hk]
    simp only [hin,ids]
    apply propext
    constructor
    · rintro (⟨h1,h2,_⟩ | h)
      · exact .inl ⟨h1,by simp,fun e=>h2 (by rw [e])⟩
      · exact .inr h
    · rintro (⟨h1,_,h2⟩ | h)
      · exact .inl ⟨h1,fun e=>h2 (by injection e with e; exact e.symm),by simp⟩
      · exact .inr h
   refine ⟨?_,fun c hm=>by cases hm⟩
   exact {
    os:=he.os
    tape:=he.tape
    output:=he.output
    size:=he.size
    blk:=fun g hg hb=>he.blk g hg (fun b' c hb'=>hb b' c (hb'.elim .inl (fun q=>by rw [hk] at q; cases q)))
    sup:=he.sup
    snew:=fun g hg=>by
     rcases he.snew g hg with h1 | h1 | ⟨b',c',h1,h2⟩
     · exact .inl h1
     · exact .inr (.inl h1)
     · rcases h1 with h1 | h1
       · exact .inr (.inr ⟨b',c',.inr (by rw [(hin b').1 h1]),h2⟩)
       · rw [hk] at h1; cases h1
    slt:=he.slt
    sfrz:=fun c hm=>by cases hm
    kold:=he.kold
    kout:=he.kout
    knew:=fun c h1 h2 g c' h3=>by
     rcases he.knew c h1 h2 g c' h3 with h4 | ⟨b0,c0,h4,h5⟩
     · exact .inl h4
     · rw [hk] at h4; cases h4
    one:=he.one
    ents:=fun c ent hm=>by rw [hD1]; exact he.ents c ent hm
    val:=by rw [hD1]; exact he.val }
 · simp only [Option.some.injEq] at h
   subst h
   exact ⟨he,hd⟩
theorem aop_sound {C:Cfg} {M:List Nat} {call:za6} (hcall:CallOK P call) {o:Oper} {E:Operand→AV} {r:Res} {a:Act} {K:Act→World→Prop} {Q:Exit→Act→World→Prop}
  (hS:∀ g,S g→g < w.heap.size) (hDL:∀ b,D b↔(L b).isSome=true) (hinj:∀ b b' g c c',D b→D b'→κ b=some (g,c)→κ b'=some (g,c')→b=b')
  (hL:∀ b ent,L b=some ent→EntAt S κ D w (κ b) ent) (hE:∀ x∈o.op.operands,VRel S κ D w (E x) (a.eval x)) (h:aop P C M call o E L=some r)
  (hK:∀ y w' S' κ',EffAt S κ D w S' κ' r y w'→Dis D r→K (a.put o.dst y) w'):o.wp P a w K Q:=by
 have hdn:∀ d,(L d).isNone=true→¬ D d:=fun d h hd=>by
  have:=(hDL d).1 hd
  rw [Option.isNone_iff_eq_none] at h
  rw [h] at this
  cases this
 have still:(∃ y,(execOp a.eval o).run P w=.ok (.value y) w∧VRel S κ D w r.val y∧r.set=[]∧r.kill=none∧r.frz=[])→o.wp P a w K Q:=by
  rintro ⟨y,h1,h2,h3,h4,h5⟩
  unfold Oper.wp
  rw [h1]
  exact hK y w S κ (EffAt.still hS h2 h3 h4 h5) (by intro b hb; rw [h5] at hb; cases hb)
 have valued:∀ y w' S' κ',(execOp a.eval o).run P w=.ok (.value y) w'→EffAt S κ D w S' κ' r y w'→r.frz=[]→o.wp P a w K Q:=by
  intro y w' S' κ' h1 h2 h3
  unfold Oper.wp
  rw [h1]
  exact hK y w' S' κ' h2 (by intro b hb; rw [h3] at hb; cases hb)
 have nosel:∀ op,o.op=op→(∀ cs b,op≠.select cs b)→∀ cs b,o.op≠.select cs b:=fun op e hn cs b=>by rw [e]; exact hn cs b
 unfold aop at h
 split at h
 · rename_i x ho
   injection h with h
   subst h
   exact still ⟨a.eval x,by simp [execOp,ho],hE x (by simp [ho,Op.operands]),rfl,rfl,rfl⟩
 · rename_i x ho
   injection h with h
   subst h
   exact still ⟨a.eval x,by simp [execOp,ho],hE x (by simp [ho,Op.operands]),rfl,rfl,rfl⟩
 · rename_i c x y ho
   split at h
   case h_2=>cases h
   rename_i t hc
   injection h with h
   subst h
   have h1:=hE c (by simp [ho,Op.operands])
   rw [hc] at h1
   refine still ⟨if t then a.eval x else a.eval y,by simp [execOp,ho,h1.v_inv,asBool],?_,rfl,rfl,rfl⟩
   cases t
   · exact hE y (by simp [ho,Op.operands])
   · exact hE x (by simp [ho,Op.operands])
 · rename_i t ho
   split at h
   case h_2=>cases h
   rename_i d zero n hd hz hn
   split at h
   case isFalse=>cases h
   rename_i hc
   obtain ⟨h1,h2,h3⟩:=hc
   obtain ⟨i,z,hi,hzz,rfl⟩:=zf2 hz
   split at h
   · obtain ⟨q,w',κ',e1,e2⟩:=arr_sound (P:=P) (t:=t) (d:=d) (r:=r) hS (hdn d h3) h2 h
     refine valued q w' S κ' ?_ e2 (aArr_frz h)
     simp only [execOp,ho,Instr.alloc,Sem.run_bind,zfC hi hzz,Result.andThen_ok]
     simp only [Instr.box,Sem.run_bind] at e1
     rw [e1]; simp
   injection h with h
   have hbox:∃ q w' κ',(Instr.box t z).run P w=.ok q w'∧EffAt S κ D w S κ' r q w':=by
    have hcl:(AV.agg (z.cells.toList.map .v)).cells=z.cells.toList.map .v:=rfl
    have hrel:VRel S κ D w (AV.agg (z.cells.toList.map .v)) (.agg z.cells):=by
     obtain ⟨c1,c2,c3⟩:=zhT (S:=S) (w:=w) h2
     exact .c (.agg _ _ c1 c2 c3)
    obtain ⟨q,w',κ',e1,e2⟩:=zvg (P:=P) (t:=t) (d:=d) (r:=r) hS (hdn d h3) (by rw [hcl]; exact h2) (by rw [← h,hcl,h1]) hrel
    refine ⟨q,w',κ',?_,e2⟩
    have:(Instr.box t z).run P w=(Instr.box t (.agg z.cells)).run P w:=by simp [Instr.box,newVar,Value.cells]
    rw [this]; exact e1
   obtain ⟨q,w',κ',e1,e2⟩:=hbox
   refine valued q w' S κ' ?_ e2 (by rw [← h])
   simp only [execOp,ho,Instr.alloc,Sem.run_bind,zfC hi hzz,Result.andThen_ok]
   simp only [Instr.box,Sem.run_bind] at e1
   rw [e1]; simp
 · rename_i t x ho
   split at h
   case h_2=>cases h
   rename_i d hd
   split at h
   case isFalse=>cases h
   rename_i hc
   injection h with h
   obtain ⟨q,w',κ',e1,e2⟩:=zvg (P:=P) (t:=t) (d:=d) (r:=r) hS (hdn d hc.2) hc.1 h.symm (hE x (by simp [ho,Op.operands]))
   exact valued q w' S κ' (by simp [execOp,ho,e1]) e2 (by rw [← h])
 · rename_i t ps ho
   obtain ⟨y,e1,e2,e3,e4,e5⟩:=zxV (ρ:=a.eval) h (fun p hp=>hE p.2 (by
    simp only [ho,Op.operands]
    simp
    exact ⟨p.1,by simpa using hp⟩))
   refine still ⟨y,?_,e2,e3,e4,e5⟩
   simp only [execOp,ho]
   simp only [ze1] at e1
   simp [e1]
 · rename_i t len ps ho
   have hps:∀ p∈ps,VRel S κ D w (E p.2) (a.eval p.2):=fun p hp=>hE p.2 (by
    simp only [ho,Op.operands]
    simp
    exact ⟨p.1,by simpa using hp⟩)
   split at h
   case h_2=>cases h
   rename_i d hd
   split at h
   · split at h
     case isFalse=>cases h
     rename_i hc
     obtain ⟨y,w',κ',e1,e2⟩:=zr9 (E:=fun x=>nrmP P t (E x)) (ρ:=a.eval) hS (hdn d hc) h (fun p hp=>nrmP_rel (hps p hp))
     refine valued y w' S κ' ?_ e2 ?_
     · simp only [execOp,ho]
       simp only [ze1] at e1
       simp [e1]
     · unfold zkd at h
       repeat' (split at h)
       all_goals first | (injection h with h; subst h; rfl) | cases h
   · obtain ⟨y,w',S',e1,e2⟩:=aLit_sound (E:=fun x=>nrmP P t (E x)) (ρ:=a.eval) hS h (fun p hp=>nrmP_rel (hps p hp))
     refine valued y w' S' κ ?_ e2 ?_
     · simp only [execOp,ho]
       simp only [ze1] at e1
       simp [e1]
     · unfold aLit at h
       repeat' (split at h)
       all_goals first | (injection h with h; subst h; rfl) | cases h
 · rename_i t x ho
   obtain ⟨y,e1,e2,e3,e4,e5⟩:=zss h (hE x (by simp [ho,Op.operands])) hL
   exact still ⟨y,by simp [execOp,ho,e1],e2,e3,e4,e5⟩
 · rename_i t x y ho
   obtain ⟨w',e1,e2⟩:=zxw hS h (nrmS_rel (hE y (by simp [ho,Op.operands]))) (hE x (by simp [ho,Op.operands])) hL
   unfold Oper.wp
   have:(execOp a.eval o).run P w=.ok .skip w':=by simp [execOp,ho,e1]
   rw [this]
   refine hK undef w' S κ (e2 undef) ?_
   have hf:r.frz=[]:=by
    unfold aStore at h
    repeat' (split at h)
    all_goals first | (injection h with h; subst h; rfl) | cases h
   intro b hb
   rw [hf] at hb
   cases hb
 · rename_i x ho
   split at h
   · rename_i cs hx
     injection h with h
     subst h
     have h1:=hE x (by simp [ho,Op.operands])
     rw [hx] at h1
     have hf:=h1.fp_inv
     refine still ⟨a.eval x,?_,h1,rfl,rfl,rfl⟩
     simp only [execOp,ho]
     generalize a.eval x=q at hf
     cases hf with
     | fp _ ad u hS' hc hr=>rfl
   · rename_i b z i oo hx
     injection h with h
     subst h
     have h1:=hE x (by simp [ho,Op.operands])
     rw [hx] at h1
     obtain ⟨g,c,_,_,he⟩:=h1.loc_inv
     refine still ⟨a.eval x,?_,h1,rfl,rfl,rfl⟩
     simp only [execOp,ho,he]
     rfl
   · rename_i z es hx
     injection h with h
     subst h
     have h1:=hE x (by simp [ho,Op.operands])
     rw [hx] at h1
     have hf:=h1.fa_inv
     refine still ⟨a.eval x,?_,h1,rfl,rfl,rfl⟩
     simp only [execOp,ho]
     generalize a.eval x=q at hf
     cases hf with
     | fa _ _ ad u hz hS' hc hr=>rfl
   · cases h
 · rename_i x i ho
   split at h
   case h_2=>cases h
   rename_i vs hx
   split at h
   case h_2=>cases h
   rename_i av hv
   injection h with h
   subst h
   have h1:=hE x (by simp [ho,Op.operands])
   rw [hx] at h1
   obtain ⟨arr,he,hl,hr⟩:=h1.tup_inv
   have hlt:i < arr.size:=by have:=(List.getElem?_eq_some_iff.1 hv).1; omega
   refine still ⟨arr[i],?_,hr i av _ hv (Array.getElem?_eq_getElem hlt),rfl,rfl,rfl⟩
   simp [execOp,ho,he,Instr.extract,hlt]
 · rename_i s x f ho
   obtain ⟨y,e1,e2,e3,e4,e5⟩:=zwT h (hE x (by simp [ho,Op.operands]))
   exact still ⟨y,by simp [execOp,ho,e1],e2,e3,e4,e5⟩
 · rename_i s x f ho
   split at h
   case h_2=>cases h
   rename_i cs fs hx hu
   split at h
   case h_2=>cases h
   rename_i fd hfd
   split at h
   case h_2=>cases h
   rename_i av hav
   injection h with h
   subst h
   have h1:=hE x (by simp [ho,Op.operands])
   rw [hx] at h1
   obtain ⟨arr,he,hl,h11,hr⟩:=h1.agg_inv
   obtain ⟨y,e1,e2⟩:=ztp (P:=P) (w:=w) hl h11 hr hav
   refine still ⟨y,?_,e2,rfl,rfl,rfl⟩
   simp [execOp,ho,he,Instr.field,run_underlying hu,hfd,asAgg,e1]
 · rename_i t x ix ho
   obtain ⟨y,e1,e2,e3,e4,e5⟩:=zw4 h (hE x (by simp [ho,Op.operands])) (hE ix (by simp [ho,Op.operands]))
   exact still ⟨y,by simp [execOp,ho,e1],e2,e3,e4,e5⟩
 · rename_i t x ix ho
   split at h
   · rename_i cs k n len e hx hix hu
     split at h
     case h_2=>cases h
     rename_i sz hs
     split at h
     case isFalse=>cases h
     rename_i hn
     split at h
     case h_2=>cases h
     rename_i av hav
     injection h with h
     subst h
     have h1:=hE x (by simp [ho,Op.operands])
     have h2:=hE ix (by simp [ho,Op.operands])
     rw [hx] at h1
     rw [hix] at h2
     obtain ⟨arr,he,hl,h11,hr⟩:=h1.agg_inv
     obtain ⟨y,e1,e2⟩:=ztp (P:=P) (w:=w) hl h11 hr hav
     refine still ⟨y,?_,e2,rfl,rfl,rfl⟩
     simp [execOp,ho,he,h2.v_inv,Instr.index,asIntOf,run_underlying hu,hn,zbs hs,e1]
   · exact still (zis (nosel _ ho (by simp)) hE h)
 · rename_i t x lo hi ho
   split at h
   · exact still (zis (nosel _ ho (by simp)) hE h)
   · rename_i av hne
     have opt:∀ q:Option Operand,(∀ y,q=some y→y∈o.op.operands)→(q.map E=none∧q.map a.eval=none)∨∃ b y,q.map E=some b∧q.map a.eval=some y∧VRel S κ D w b y:=by
      intro q hq
      cases q with
      | none=>exact .inl ⟨rfl,rfl⟩
      | some y=>exact .inr ⟨_,_,rfl,rfl,hE y (hq y rfl)⟩
     obtain ⟨y,e1,e2,e3,e4,e5⟩:=zxC h (hE x (by simp [ho,Op.operands])) (opt lo (fun y hy=>by simp [ho,Op.operands,hy])) (opt hi (fun y hy=>by simp [ho,Op.operands,hy]))
     exact still ⟨y,by simp [execOp,ho,e1],e2,e3,e4,e5⟩
 · rename_i f first cap ho
   split at h
   case isFalse=>cases h
   rename_i hf
   injection h with h
   subst h
   have hf0:first=#[]:=Array.eq_empty_of_size_eq_zero hf
   subst hf0
   refine still ⟨.func (.func f) #[] (cap.map a.eval),by simp [execOp,ho,Instr.makeFunc],.fn f _ _ (by simp) ?_,rfl,rfl,rfl⟩
   intro j c x hj hx
   simp at hj hx
   obtain ⟨q,hq,rfl⟩:=hj
   obtain ⟨q',hq',rfl⟩:=hx
   rw [hq] at hq'
   injection hq' with hq'
   subst hq'
   exact hE q (by simp [ho,Op.operands]; exact Array.mem_of_getElem? hq)
 · rename_i t l c ho
   split at h
   case h_2=>cases h
   rename_i d hd
   split at h
   case isFalse=>cases h
   rename_i hc
   obtain ⟨y,w',κ',e1,e2⟩:=zza hS (hdn d hc) h (hE l (by simp [ho,Op.operands])) (hE c (by simp [ho,Op.operands]))
   refine valued y w' S κ' (by simp [execOp,ho,e1]) e2 ?_
   unfold aMake at h
   repeat' (split at h)
   all_goals first | (injection h with h; subst h; rfl) | cases h
 · rename_i args argTypes ho
   split at h
   case h_2=>cases h
   rename_i d s x t t' hd ha ht
   split at h
   case isFalse=>cases h
   rename_i hc
   obtain ⟨rfl,hdd⟩:=hc
   have ha':args=#[s,x]:=by rw [← Array.toArray_toList (xs:=args),ha]
   have ht':argTypes=#[t,t]:=by rw [← Array.toArray_toList (xs:=argTypes),ht]
   subst ha'
   subst ht'
   obtain ⟨y,w',κ',e1,e2⟩:=zvK (ty:=o.type) hS (hdn d hdd) h (hE s (by simp [ho,Op.operands,Call.operands])) (hE x (by simp [ho,Op.operands,Call.operands])) hL
   refine valued y w' S κ' ?_ e2 ?_
   · simp [execOp,ho,resolve,invoke,builtin,e1]
   · unfold ziy at h
     repeat' (split at h)
     all_goals first | (injection h with h; subst h; rfl) | cases h
 · rename_i args argTypes ho
   split at h
   case h_2=>cases h
   rename_i s x t tr ha ht
   have ha':args=#[s,x]:=by rw [← Array.toArray_toList (xs:=args),ha]
   subst ha'
   obtain ⟨y,w',e1,e2⟩:=zzd (P:=P) (ty:=o.type) (ts:=argTypes) hS (by rw [← Array.getElem?_toList,ht]; rfl) h (hE s (by simp [ho,Op.operands,Call.operands])) (hE x (by simp [ho,Op.operands,Call.operands])) hL
   refine valued y w' S κ ?_ e2 ?_
   · simp [execOp,ho,resolve,invoke,builtin,e1]
   · unfold aCopy at h
     repeat' (split at h)
     all_goals first | (injection h with h; subst h; rfl) | cases h
 · rename_i args argTypes ho
   split at h
   case h_2=>cases h
   rename_i s t tr ha ht
   have ha':args=#[s]:=by rw [← Array.toArray_toList (xs:=args),ha]
   subst ha'
   obtain ⟨y,w',e1,e2⟩:=zxm (P:=P) (ty:=o.type) (ts:=argTypes) hS (by rw [← Array.getElem?_toList,ht]; rfl) h (hE s (by simp [ho,Op.operands,Call.operands])) hL
   refine valued y w' S κ ?_ e2 ?_
   · simp [execOp,ho,resolve,invoke,builtin,e1]
   · unfold aClear at h
     repeat' (split at h)
     all_goals first | (injection h with h; subst h; rfl) | cases h
 · rename_i args argTypes ho
   split at h
   case h_2=>cases h
   rename_i s t ha ht
   split at h
   · exact still (zis (nosel _ ho (by simp)) hE h)
   · rename_i av e hu hne
     have ha':args=#[s]:=by rw [← Array.toArray_toList (xs:=args),ha]
     have ht':argTypes=#[t]:=by rw [← Array.toArray_toList (xs:=argTypes),ht]
     subst ha'
     subst ht'
     have h1:=hE s (by simp [ho,Op.operands,Call.operands])
     have hlen:∃ A n c,a.eval s=.slice A n c∧r={ val:=.v (.int .i64 n) }:=by
      unfold aLen at h
      split at h
      · rename_i z es hh
        injection h with h
        rw [hh] at h1
        have:=h1.sl_inv
        generalize a.eval s=q at this
        cases this with
        | sl _ _ A len cap u hlen=>exact ⟨A,len,cap,rfl,by rw [← h,hlen]⟩
      · rename_i b z off n hh
        injection h with h
        rw [hh] at h1
        generalize a.eval s=q at h1
        cases h1 with
        | c h=>cases h
        | row0=>exact ⟨none,0,0,rfl,by rw [← h]⟩
        | row _ _ _ _ g c off' cap=>exact ⟨_,n,cap,rfl,by rw [← h]⟩
      · cases h
     obtain ⟨A,n,c,he,hr⟩:=hlen
     subst hr
     exact still ⟨.int .i64 n,by simp [execOp,ho,resolve,invoke,builtin,Builtin.len_,he,run_underlying hu,goInt],.c (.v _),rfl,rfl,rfl⟩
   · rename_i av kt et hu hne
     have ha':args=#[s]:=by rw [← Array.toArray_toList (xs:=args),ha]
     have ht':argTypes=#[t]:=by rw [← Array.toArray_toList (xs:=argTypes),ht]
     subst ha'
     subst ht'
     obtain ⟨y,e1,e2,e3,e4,e5⟩:=zyw (ty:=o.type) hu h (hE s (by simp [ho,Op.operands,Call.operands])) hL
     exact still ⟨y,by simp [execOp,ho,resolve,invoke,builtin,e1],e2,e3,e4,e5⟩
   · cases h
 · rename_i args argTypes ho
   split at h
   case h_2=>cases h
   rename_i m k t tr ha ht
   have ha':args=#[m,k]:=by rw [← Array.toArray_toList (xs:=args),ha]
   subst ha'
   obtain ⟨y,w',S',e1,e2,e3⟩:=zyE (P:=P) (ty:=o.type) (ts:=argTypes) hS hinj (by rw [← Array.getElem?_toList,ht]; rfl) h (hE m (by simp [ho,Op.operands,Call.operands])) (hE k (by simp [ho,Op.operands,Call.operands])) hL
   refine valued y w' S' κ ?_ e2 e3
   simp [execOp,ho,resolve,invoke,builtin,e1]
 · rename_i t ho
   split at h
   case h_2=>cases h
   rename_i d hd
   split at h
   case isFalse=>cases h
   rename_i hc
   obtain ⟨y,w',κ',e1,e2,e3⟩:=zw9 hS (hdn d hc) h
   exact valued y w' S κ' (by simp [execOp,ho,e1]) e2 e3
 · rename_i t m k ok ho
   obtain ⟨y,e1,e2,e3,e4,e5⟩:=zxW h (hE m (by simp [ho,Op.operands])) (hE k (by simp [ho,Op.operands])) hL
   exact still ⟨y,by simp [execOp,ho,e1],e2,e3,e4,e5⟩
 · rename_i t m k x ho
   obtain ⟨w',S',e1,e2,e3⟩:=zsl hS hDL hinj h (hE m (by simp [ho,Op.operands])) (hE k (by simp [ho,Op.operands])) (hE x (by simp [ho,Op.operands])) hL
   unfold Oper.wp
   have:(execOp a.eval o).run P w=.ok .skip w':=by simp [execOp,ho,e1]
   rw [this]
   exact hK undef w' S' κ (e2 undef) e3
 · rename_i t m k x ho
   obtain ⟨w',S',e1,e2,e3⟩:=zsl hS hDL hinj h (hE m (by simp [ho,Op.operands])) (hE k (by simp [ho,Op.operands])) (hE x (by simp [ho,Op.operands])) hL
   unfold Oper.wp
   have:(execOp a.eval o).run P w=.ok .skip w':=by simp [execOp,ho,e1]
   rw [this]
   exact hK undef w' S' κ (e2 undef) e3
 · rename_i g args argTypes ho
   split at h
   case h_2=>cases h
   rename_i f cap hg
   split at h
   · exact still (zis (nosel _ ho (by simp)) hE h)
   · rename_i hb
     have h1:=hE g (by simp [ho,Op.operands,Call.operands])
     rw [hg] at h1
     obtain ⟨caps,he,hcl,hcr⟩:=h1.fn_inv
     have hvals:∀ (j:Nat) (av:AV) (x:Value),(args.toList.map E++cap)[j]?=some av→(args.map a.eval++caps)[j]?=some x→VRel S κ D w av x:=by
      intro j av x hj hx
      rw [List.getElem?_append] at hj
      rw [Array.getElem?_append] at hx
      simp only [List.length_map,Array.length_toList] at hj
      simp only [Array.size_map] at hx
      split at hj
      · rename_i hlt
        rw [if_pos hlt] at hx
        simp at hj hx
        obtain ⟨q,hq,rfl⟩:=hj
        obtain ⟨q',hq',rfl⟩:=hx
        rw [hq] at hq'
        injection hq' with hq'
        subst hq'
        exact hE q (by simp [ho,Op.operands,Call.operands]; exact .inr (Array.mem_of_getElem? hq))
      · rename_i hlt
        rw [if_neg hlt] at hx
        exact hcr _ av x hj hx
     have hvals':∀ (j:Nat) (av:AV) (x:Value),(nrmA P argTypes.toList (args.toList.map E)++cap)[j]?=some av→(args.map a.eval++caps)[j]?=some x→VRel S κ D w av x:=by
      intro j av x hj hx
      rw [List.getElem?_append] at hj
      split at hj
      · rename_i hlt
        obtain ⟨a0,ha0,hc⟩:=zpF P _ _ j av hj
        have h0:(args.toList.map E++cap)[j]?=some a0:=by
         rw [List.getElem?_append,if_pos (by rw [ziu] at hlt; exact hlt)]
         exact ha0
        rcases hc with rfl | ⟨t',rfl⟩
        · exact hvals j _ x h0 hx
        · exact zm2 (hvals j _ x h0 hx)
      · rename_i hlt
        refine hvals j av x ?_ hx
        rw [List.getElem?_append,if_neg (by rw [ziu] at hlt; exact hlt)]
        rw [ziu] at hj
        exact hj
     have done:∀ (d:Option Nat) (k:Bool) (r0:Res),(∀ d',d=some d'→¬ D d')→aCall C call L d f (nrmA P argTypes.toList (args.toList.map E)++cap)=some r0→toKill k r0=some r→o.wp P a w K Q:=by
      intro d k r0 hd hc htk
      obtain ⟨hb',hcalls⟩:=zy9 hcall hS hDL hinj hd hL hc (vals:=args.map a.eval++caps) (by simp [hcl,ziu]) hvals'
      unfold enters at hb'
      split at hb'
      case h_2=>cases hb'
      rename_i fn hfn
      simp only [Bool.and_eq_true,Bool.not_eq_true'] at hb'
      have hbody:¬ fn.body=none:=by cases hq:fn.body <;> simp_all
      have hname:¬ fn.name = "runtime.NumGoroutine":=by simpa using hb'.2
      have hrun:(execOp a.eval o).run P w=.ok (.enter f (args.map a.eval++caps)) w:=by
       simp [execOp,ho,resolve,he,Deferred.ofValue,invoke,callFunc,hfn,hbody,hname]
      unfold Oper.wp
      rw [hrun]
      simp only [Oper.upon]
      refine hcalls.mono ?_
      rintro e w' ⟨x,S',κ',rfl,h2,h3⟩
      obtain ⟨h4,h5⟩:=zxB htk h2 h3
      exact hK x w' S' κ' h4 h5
     split at h
     · rename_i d hd
       split at h
       case isFalse=>cases h
       rename_i hdd
       split at h
       case h_2=>cases h
       rename_i r0 hc
       exact done (some d) (M.contains d) r0 (fun d' hd'=>by injection hd' with hd'; subst hd'; exact hdn d hdd) hc h
     · exact done none false r (fun d' hd'=>by cases hd') h rfl
 · rename_i op t x y u ho
   split at h
   · rename_i cs ds hx hy
     have h1:=hE x (by simp [ho,Op.operands])
     have h2:=hE y (by simp [ho,Op.operands])
     rw [hx] at h1
     rw [hy] at h2
     obtain ⟨b,e1,e2⟩:=aEq_sound (o:=o) (ρ:=a.eval) ho h h1 h2
     subst e2
     exact still ⟨.bool b,e1,.c (.v _),rfl,rfl,rfl⟩
   · exact still (zis (fun cs b e=>by simp_all) hE h)
 · cases h
 · rename_i hsel _
   exact still (zis (fun cs b e=>by simp_all) hE h)
end
end Go.Ab
