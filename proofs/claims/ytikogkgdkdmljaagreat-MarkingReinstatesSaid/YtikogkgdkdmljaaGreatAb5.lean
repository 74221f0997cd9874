/- One operation: the abstract step is right. -/
import Derived.Test.YtikogkgdkdmljaaGreatAb4
set_option linter.unusedSimpArgs false
set_option linter.unusedVariables false
noncomputable section
namespace Go.Ab
open Go.RowKit
section
variable {P:Program} {S:Nat→Prop} {κ:Kap} {D:Nat→Prop} {w:World} {L:Nat→Option Ent}
theorem zz1 {k:Bool} {r r0:Res} {y:Value} {w':World} {S':Nat→Prop} {κ':Kap} (h:toKill k r0=some r) (he:EffAt S κ D w S' κ' r0 y w') (hd:Dis D r0):EffAt S κ D w S' κ' r y w'∧Dis D r:=by
 unfold toKill at h; split at h
 · rename_i b rest hf hk; split at h
   case isFalse=>cases h
   rename_i hc; simp only [zat] at h; subst h
   have hin:∀ c,c∈r0.frz↔c=b:=fun c=>by
    rw [hf]; constructor
    · intro hm; rcases za1.1 hm with e | hm
      · exact e
      · have:=zbQ.1 hc.1 c hm; simpa using this
    · rintro rfl; exact ziR
   have hD1:D1 D { r0 with frz:=[],kill:=some b }=D1 D r0:=by
    funext c; unfold D1; rw [hk]; simp only [hin,ids]; apply propext; constructor
    · rintro (⟨h1,h2,_⟩ | h)
      · exact .inl ⟨h1,by simp,fun e=>h2 (by rw [e])⟩
      · exact .inr h
    · rintro (⟨h1,_,h2⟩ | h)
      · exact .inl ⟨h1,fun e=>h2 (by injection e with e; exact e.symm),by simp⟩
      · exact .inr h
   refine ⟨?_,fun c hm=>by cases hm⟩
   exact {
    os:=he.os
    tape:=he.tape
    output:=he.output
    size:=he.size
    blk:=fun g hg hb=>he.blk g hg (fun b' c hb'=>hb b' c (hb'.elim .inl (fun q=>by rw [hk] at q; cases q)))
    sup:=he.sup
    snew:=fun g hg=>by
     rcases he.snew g hg with h1 | h1 | ⟨b',c',h1,h2⟩
     · exact .inl h1
     · exact .inr (.inl h1)
     · rcases h1 with h1 | h1 | h1
       · exact .inr (.inr ⟨b',c',.inr (.inl (by rw [(hin b').1 h1])),h2⟩)
       · rw [hk] at h1; cases h1
       · exact .inr (.inr ⟨b',c',.inr (.inr h1),h2⟩)
    slt:=he.slt
    sfrz:=fun c hm=>by cases hm
    kold:=he.kold
    kout:=he.kout
    knew:=fun c h1 h2 g c' h3=>by
     rcases he.knew c h1 h2 g c' h3 with h4 | ⟨b0,c0,h4,h5⟩
     · exact .inl h4
     · rcases h4 with h4 | h4
       · rw [hk] at h4; cases h4
       · exact .inr ⟨b0,c0,.inr h4,h5⟩
    one:=he.one
    res:=he.res
    ents:=fun c ent hm=>by rw [hD1]; exact he.ents c ent hm
    val:=by rw [hD1]; exact he.val }
 · simp only [zat] at h; subst h; exact ⟨he,hd⟩
theorem aop_sound {C:Cfg} {M:List Nat} {call:zbu} (hcall:CallOK P call) {o:Oper} {E:Operand→AV} {r:Res} {a:Act} {K:Act→World→Prop} {Q:Exit→Act→World→Prop}
  (hS:∀ g,S g→g < w.heap.size) (hDL:∀ b,D b↔(L b).isSome=true) (hinj:∀ b b' g c c',D b→D b'→κ b=some (g,c)→κ b'=some (g,c')→b=b')
  (hL:∀ b ent,L b=some ent→EntAt S κ D w (κ b) ent) (hE:∀ x∈o.op.operands,VRel S κ D w (E x) (a.eval x)) (h:aop P C M call o E L=some r)
  (hK:∀ y w' S' κ',EffAt S κ D w S' κ' r y w'→Dis D r→K (a.put o.dst y) w'):o.wp P a w K Q:=by
 have hdn:∀ d,(L d).isNone=true→¬ D d:=fun d h hd=>by have:=(hDL d).1 hd; rw [Option.isNone_iff_eq_none] at h; rw [h] at this; cases this
 have still:(∃ y,(execOp a.eval o).run P w=.ok (.value y) w∧VRel S κ D w r.val y∧r.set=[]∧r.kill=none∧r.frz=[]∧r.re=[])→o.wp P a w K Q:=by
  rintro ⟨y,h1,h2,h3,h4,h5,h6⟩
  unfold Oper.wp; rw [h1]; exact hK y w S κ (EffAt.still hS h2 h3 h4 h5 h6) (by intro b hb; rw [h5] at hb; cases hb)
 have valued:∀ y w' S' κ',(execOp a.eval o).run P w=.ok (.value y) w'→EffAt S κ D w S' κ' r y w'→r.frz=[]→o.wp P a w K Q:=by intro y w' S' κ' h1 h2 h3; unfold Oper.wp; rw [h1]; exact hK y w' S' κ' h2 (by intro b hb; rw [h3] at hb; cases hb)
 have nosel:∀ op,o.op=op→(∀ cs b,op≠.select cs b)→∀ cs b,o.op≠.select cs b:=fun op e hn cs b=>by rw [e]; exact hn cs b
 unfold aop at h; split at h
 · rename_i x ho; injection h with h; subst h; exact still ⟨a.eval x,by simp [execOp,ho],hE x (by simp [ho,Op.operands]),rfl,rfl,rfl,rfl⟩
 · rename_i x ho; injection h with h; subst h; exact still ⟨a.eval x,by simp [execOp,ho],hE x (by simp [ho,Op.operands]),rfl,rfl,rfl,rfl⟩
 · rename_i c x y ho; split at h
   case h_2=>cases h
   rename_i t hc; injection h with h; subst h; have h1:=hE c (by simp [ho,Op.operands]); rw [hc] at h1; refine still ⟨if t then a.eval x else a.eval y,by simp [execOp,ho,h1.v_inv,asBool],?_,rfl,rfl,rfl,rfl⟩; cases t
   · exact hE y (by simp [ho,Op.operands])
   · exact hE x (by simp [ho,Op.operands])
 · rename_i t ho; split at h
   case h_2=>cases h
   rename_i d zero n hd hz hn; split at h
   case isFalse=>cases h
   rename_i hc; obtain ⟨h1,h2,h3⟩:=hc; obtain ⟨i,z,hi,hzz,rfl⟩:=zfr hz; split at h
   · obtain ⟨q,w',κ',e1,e2⟩:=arr_sound (P:=P) (t:=t) (d:=d) (r:=r) hS (hdn d h3) h2 h; refine valued q w' S κ' ?_ e2 (aArr_frz h); simp only [execOp,ho,Instr.alloc,Sem.run_bind,zfL hi hzz,Result.andThen_ok]; simp only [Instr.box,Sem.run_bind] at e1; rw [e1]; simp
   injection h with h
   have hbox:∃ q w' κ',(Instr.box t z).run P w=.ok q w'∧EffAt S κ D w S κ' r q w':=by
    have hcl:(AV.agg (z.cells.toList.map .v)).cells=z.cells.toList.map .v:=rfl
    have hrel:VRel S κ D w (AV.agg (z.cells.toList.map .v)) (.agg z.cells):=by obtain ⟨c1,c2,c3⟩:=ziw (S:=S) (w:=w) h2; exact .c (.agg _ _ c1 c2 c3)
    obtain ⟨q,w',κ',e1,e2⟩:=zx5 (P:=P) (t:=t) (d:=d) (r:=r) hS (hdn d h3) (by rw [hcl]; exact h2) (by rw [← h,hcl,h1]) hrel; refine ⟨q,w',κ',?_,e2⟩; have:(Instr.box t z).run P w=(Instr.box t (.agg z.cells)).run P w:=by simp [Instr.box,newVar,Value.cells]
    rw [this]; exact e1
   obtain ⟨q,w',κ',e1,e2⟩:=hbox; refine valued q w' S κ' ?_ e2 (by rw [← h]); simp only [execOp,ho,Instr.alloc,Sem.run_bind,zfL hi hzz,Result.andThen_ok]; simp only [Instr.box,Sem.run_bind] at e1; rw [e1]; simp
 · rename_i t x ho; split at h
   case h_2=>cases h
   rename_i d hd; split at h
   case isFalse=>cases h
   rename_i hc; injection h with h; obtain ⟨q,w',κ',e1,e2⟩:=zx5 (P:=P) (t:=t) (d:=d) (r:=r) hS (hdn d hc.2) hc.1 h.symm (hE x (by simp [ho,Op.operands])); exact valued q w' S κ' (by simp [execOp,ho,e1]) e2 (by rw [← h])
 · rename_i t ps ho
   obtain ⟨y,e1,e2,e3,e4,e5⟩:=zza (ρ:=a.eval) h (fun p hp=>hE p.2 (by
    simp only [ho,Op.operands]; simp
    exact ⟨p.1,by simpa using hp⟩))
   refine still ⟨y,?_,e2,e3,e4,e5⟩; simp only [execOp,ho]; simp only [zfe] at e1; simp [e1]
 · rename_i t len ps ho
   have hps:∀ p∈ps,VRel S κ D w (E p.2) (a.eval p.2):=fun p hp=>hE p.2 (by
    simp only [ho,Op.operands]; simp
    exact ⟨p.1,by simpa using hp⟩)
   split at h
   case h_2=>cases h
   rename_i d hd; split at h
   · split at h
     case isFalse=>cases h
     rename_i hc; obtain ⟨y,w',κ',e1,e2⟩:=zus (E:=fun x=>nrmP P t (E x)) (ρ:=a.eval) hS (hdn d hc) h (fun p hp=>nrmP_rel (hps p hp)); refine valued y w' S κ' ?_ e2 ?_
     · simp only [execOp,ho]; simp only [zfe] at e1; simp [e1]
     · unfold zk2 at h
       repeat' (split at h)
       all_goals first | (injection h with h; subst h; rfl) | cases h
   · obtain ⟨y,w',S',e1,e2⟩:=aLit_sound (E:=fun x=>nrmP P t (E x)) (ρ:=a.eval) hS h (fun p hp=>nrmP_rel (hps p hp)); refine valued y w' S' κ ?_ e2 ?_
     · simp only [execOp,ho]; simp only [zfe] at e1; simp [e1]
     · unfold aLit at h
       repeat' (split at h)
       all_goals first | (injection h with h; subst h; rfl) | cases h
 · rename_i t x ho; obtain ⟨y,e1,e2,e3,e4,e5⟩:=zuT h (hE x (by simp [ho,Op.operands])) hL; exact still ⟨y,by simp [execOp,ho,e1],e2,e3,e4,e5⟩
 · rename_i t x y ho; obtain ⟨w',e1,e2⟩:=zzk hS h (nrmS_rel (hE y (by simp [ho,Op.operands]))) (hE x (by simp [ho,Op.operands])) hL; unfold Oper.wp; have:(execOp a.eval o).run P w=.ok .skip w':=by simp [execOp,ho,e1]
   rw [this]; refine hK undef w' S κ (e2 undef) ?_
   have hf:r.frz=[]:=by
    unfold aStore at h
    repeat' (split at h)
    all_goals first | (injection h with h; subst h; rfl) | cases h
   intro b hb; rw [hf] at hb; cases hb
 · rename_i x ho; split at h
   · rename_i cs hx; injection h with h; subst h; have h1:=hE x (by simp [ho,Op.operands]); rw [hx] at h1; have hf:=h1.fp_inv; refine still ⟨a.eval x,?_,h1,rfl,rfl,rfl,rfl⟩; simp only [execOp,ho]; generalize a.eval x=q at hf
     cases hf with
     | fp _ ad u hS' hc hr=>rfl
   · rename_i b z i oo hx; injection h with h; subst h; have h1:=hE x (by simp [ho,Op.operands]); rw [hx] at h1; obtain ⟨g,c,_,_,he⟩:=h1.loc_inv; refine still ⟨a.eval x,?_,h1,rfl,rfl,rfl,rfl⟩; simp only [execOp,ho,he]; rfl
   · rename_i z es hx; injection h with h; subst h; have h1:=hE x (by simp [ho,Op.operands]); rw [hx] at h1; have hf:=h1.fa_inv; refine still ⟨a.eval x,?_,h1,rfl,rfl,rfl,rfl⟩; simp only [execOp,ho]; generalize a.eval x=q at hf
     cases hf with
     | fa _ _ ad u hz hS' hc hr=>rfl
   · cases h
 · rename_i x i ho; split at h
   case h_2=>cases h
   rename_i vs hx; split at h
   case h_2=>cases h
   rename_i av hv; injection h with h; subst h; have h1:=hE x (by simp [ho,Op.operands]); rw [hx] at h1; obtain ⟨arr,he,hl,hr⟩:=h1.tup_inv; have hlt:i < arr.size:=by have:=(zbs.1 hv).1; omega
   refine still ⟨arr[i],?_,hr i av _ hv (zcy hlt),rfl,rfl,rfl,rfl⟩; simp [execOp,ho,he,Instr.extract,hlt]
 · rename_i s x f ho; obtain ⟨y,e1,e2,e3,e4,e5⟩:=zzc h (hE x (by simp [ho,Op.operands])); exact still ⟨y,by simp [execOp,ho,e1],e2,e3,e4,e5⟩
 · rename_i s x f ho; split at h
   case h_2=>cases h
   rename_i cs fs hx hu; split at h
   case h_2=>cases h
   rename_i fd hfd; split at h
   case h_2=>cases h
   rename_i av hav; injection h with h; subst h; have h1:=hE x (by simp [ho,Op.operands]); rw [hx] at h1; obtain ⟨arr,he,hl,h11,hr⟩:=h1.agg_inv; obtain ⟨y,e1,e2⟩:=zxu (P:=P) (w:=w) hl h11 hr hav; refine still ⟨y,?_,e2,rfl,rfl,rfl,rfl⟩; simp [execOp,ho,he,Instr.field,run_underlying hu,hfd,asAgg,e1]
 · rename_i t x ix ho; obtain ⟨y,e1,e2,e3,e4,e5⟩:=zzd h (hE x (by simp [ho,Op.operands])) (hE ix (by simp [ho,Op.operands])); exact still ⟨y,by simp [execOp,ho,e1],e2,e3,e4,e5⟩
 · rename_i t x ix ho; split at h
   · rename_i cs k n len e hx hix hu; split at h
     case h_2=>cases h
     rename_i sz hs; split at h
     case isFalse=>cases h
     rename_i hn; split at h
     case h_2=>cases h
     rename_i av hav; injection h with h; subst h; have h1:=hE x (by simp [ho,Op.operands]); have h2:=hE ix (by simp [ho,Op.operands]); rw [hx] at h1; rw [hix] at h2; obtain ⟨arr,he,hl,h11,hr⟩:=h1.agg_inv; obtain ⟨y,e1,e2⟩:=zxu (P:=P) (w:=w) hl h11 hr hav; refine still ⟨y,?_,e2,rfl,rfl,rfl,rfl⟩; simp [execOp,ho,he,h2.v_inv,Instr.index,asIntOf,run_underlying hu,hn,zcb hs,e1]
   · exact still (ziU (nosel _ ho (by simp)) hE h)
 · rename_i t x lo hi ho; split at h
   · exact still (ziU (nosel _ ho (by simp)) hE h)
   · rename_i av hne
     have opt:∀ q:Option Operand,(∀ y,q=some y→y∈o.op.operands)→(q.map E=none∧q.map a.eval=none)∨∃ b y,q.map E=some b∧q.map a.eval=some y∧VRel S κ D w b y:=by
      intro q hq
      cases q with
      | none=>exact .inl ⟨rfl,rfl⟩
      | some y=>exact .inr ⟨_,_,rfl,rfl,hE y (hq y rfl)⟩
     obtain ⟨y,e1,e2,e3,e4,e5⟩:=zzj h (hE x (by simp [ho,Op.operands])) (opt lo (fun y hy=>by simp [ho,Op.operands,hy])) (opt hi (fun y hy=>by simp [ho,Op.operands,hy])); exact still ⟨y,by simp [execOp,ho,e1],e2,e3,e4,e5⟩
 · rename_i f first cap ho
   split at h
   case isFalse=>cases h
   rename_i hf; injection h with h; subst h; have hf0:first=#[]:=aLiAs5 hf
   subst hf0; refine still ⟨.func (.func f) #[] (cap.map a.eval),by simp [execOp,ho,Instr.makeFunc],.fn f _ _ (by simp) ?_,rfl,rfl,rfl,rfl⟩; intro j c x hj hx; simp at hj hx; obtain ⟨q,hq,rfl⟩:=hj; obtain ⟨q',hq',rfl⟩:=hx; rw [hq] at hq'; injection hq' with hq'; subst hq'; exact hE q (by simp [ho,Op.operands]; exact zmM hq)
 · rename_i t l c ho; split at h
   case h_2=>cases h
   rename_i d hd; split at h
   case isFalse=>cases h
   rename_i hc; split at h
   · obtain ⟨y,w',S',e1,e2⟩:=zzf hS h (hE l (by simp [ho,Op.operands])) (hE c (by simp [ho,Op.operands])); refine valued y w' S' κ (by simp [execOp,ho,e1]) e2 ?_; unfold aMakeL at h
     repeat' (split at h)
     all_goals first | (injection h with h; subst h; rfl) | cases h
   obtain ⟨y,w',κ',e1,e2⟩:=zAb hS (hdn d hc) h (hE l (by simp [ho,Op.operands])) (hE c (by simp [ho,Op.operands])); refine valued y w' S κ' (by simp [execOp,ho,e1]) e2 ?_; unfold aMake at h
   repeat' (split at h)
   all_goals first | (injection h with h; subst h; rfl) | cases h
 · rename_i args argTypes ho; split at h
   case h_2=>cases h
   rename_i d s x t t' hd ha ht; split at h
   case isFalse=>cases h
   rename_i hc; obtain ⟨rfl,hdd⟩:=hc; have ha':args=#[s,x]:=by rw [← zkk (xs:=args),ha]
   have ht':argTypes=#[t,t]:=by rw [← zkk (xs:=argTypes),ht]
   subst ha'; subst ht'; obtain ⟨y,w',κ',e1,e2⟩:=zyJ (ty:=o.type) hS (hdn d hdd) h (hE s (by simp [ho,Op.operands,Call.operands])) (hE x (by simp [ho,Op.operands,Call.operands])) hL; refine valued y w' S κ' ?_ e2 ?_
   · simp [execOp,ho,resolve,invoke,builtin,e1]
   · unfold ziN at h
     repeat' (split at h)
     all_goals first | (injection h with h; subst h; rfl) | cases h
 · rename_i args argTypes ho; split at h
   case h_2=>cases h
   rename_i s x t tr ha ht; have ha':args=#[s,x]:=by rw [← zkk (xs:=args),ha]
   subst ha'; obtain ⟨y,w',e1,e2⟩:=zz5 (P:=P) (ty:=o.type) (ts:=argTypes) hS (by rw [← zqL,ht]; rfl) h (hE s (by simp [ho,Op.operands,Call.operands])) (hE x (by simp [ho,Op.operands,Call.operands])) hL; refine valued y w' S κ ?_ e2 ?_
   · simp [execOp,ho,resolve,invoke,builtin,e1]
   · unfold aCopy at h
     repeat' (split at h)
     all_goals first | (injection h with h; subst h; rfl) | cases h
 · rename_i args argTypes ho; split at h
   case h_2=>cases h
   rename_i s t tr ha ht; have ha':args=#[s]:=by rw [← zkk (xs:=args),ha]
   subst ha'; obtain ⟨y,w',e1,e2⟩:=zzb (P:=P) (ty:=o.type) (ts:=argTypes) hS (by rw [← zqL,ht]; rfl) h (hE s (by simp [ho,Op.operands,Call.operands])) hL; refine valued y w' S κ ?_ e2 ?_
   · simp [execOp,ho,resolve,invoke,builtin,e1]
   · unfold aClear at h
     repeat' (split at h)
     all_goals first | (injection h with h; subst h; rfl) | cases h
 · rename_i args argTypes ho; split at h
   case h_2=>cases h
   rename_i s t ha ht; split at h
   · exact still (ziU (nosel _ ho (by simp)) hE h)
   · rename_i av e hu hne; have ha':args=#[s]:=by rw [← zkk (xs:=args),ha]
     have ht':argTypes=#[t]:=by rw [← zkk (xs:=argTypes),ht]
     subst ha'; subst ht'; have h1:=hE s (by simp [ho,Op.operands,Call.operands])
     have hlen:∃ A n c,a.eval s=.slice A n c∧r={ val:=.v (.int .i64 n) }:=by
      unfold aLen at h; split at h
      · rename_i z es hh; injection h with h; rw [hh] at h1; have:=h1.sl_inv; generalize a.eval s=q at this
        cases this with
        | sl _ _ A len cap u hlen=>exact ⟨A,len,cap,rfl,by rw [← h,hlen]⟩
      · rename_i b z off n hh; injection h with h; rw [hh] at h1; generalize a.eval s=q at h1
        cases h1 with
        | c h=>cases h
        | row0=>exact ⟨none,0,0,rfl,by rw [← h]⟩
        | row _ _ _ _ g c off' cap=>exact ⟨_,n,cap,rfl,by rw [← h]⟩
      · cases h
     obtain ⟨A,n,c,he,hr⟩:=hlen; subst hr; exact still ⟨.int .i64 n,by simp [execOp,ho,resolve,invoke,builtin,Builtin.len_,he,run_underlying hu,goInt],.c (.v _),rfl,rfl,rfl,rfl⟩
   · rename_i av kt et hu hne; have ha':args=#[s]:=by rw [← zkk (xs:=args),ha]
     have ht':argTypes=#[t]:=by rw [← zkk (xs:=argTypes),ht]
     subst ha'; subst ht'; obtain ⟨y,e1,e2,e3,e4,e5⟩:=zAa (ty:=o.type) hu h (hE s (by simp [ho,Op.operands,Call.operands])) hL; exact still ⟨y,by simp [execOp,ho,resolve,invoke,builtin,e1],e2,e3,e4,e5⟩
   · cases h
 · rename_i args argTypes ho; split at h
   case h_2=>cases h
   rename_i m k t tr ha ht; have ha':args=#[m,k]:=by rw [← zkk (xs:=args),ha]
   subst ha'; obtain ⟨y,w',S',e1,e2,e3⟩:=zz9 (P:=P) (ty:=o.type) (ts:=argTypes) hS hinj (by rw [← zqL,ht]; rfl) h (hE m (by simp [ho,Op.operands,Call.operands])) (hE k (by simp [ho,Op.operands,Call.operands])) hL; refine valued y w' S' κ ?_ e2 e3; simp [execOp,ho,resolve,invoke,builtin,e1]
 · rename_i t ho; split at h
   case h_2=>cases h
   rename_i d hd; split at h
   case isFalse=>cases h
   rename_i hc; obtain ⟨y,w',κ',e1,e2,e3⟩:=zzg hS (hdn d hc) h; exact valued y w' S κ' (by simp [execOp,ho,e1]) e2 e3
 · rename_i t m k ok ho; obtain ⟨y,e1,e2,e3,e4,e5⟩:=zze h (hE m (by simp [ho,Op.operands])) (hE k (by simp [ho,Op.operands])) hL; exact still ⟨y,by simp [execOp,ho,e1],e2,e3,e4,e5⟩
 · rename_i t m k x ho; obtain ⟨w',S',e1,e2,e3⟩:=zuW hS hDL hinj h (hE m (by simp [ho,Op.operands])) (hE k (by simp [ho,Op.operands])) (hE x (by simp [ho,Op.operands])) hL; unfold Oper.wp; have:(execOp a.eval o).run P w=.ok .skip w':=by simp [execOp,ho,e1]
   rw [this]; exact hK undef w' S' κ (e2 undef) e3
 · rename_i t m k x ho; obtain ⟨w',S',e1,e2,e3⟩:=zuW hS hDL hinj h (hE m (by simp [ho,Op.operands])) (hE k (by simp [ho,Op.operands])) (hE x (by simp [ho,Op.operands])) hL; unfold Oper.wp; have:(execOp a.eval o).run P w=.ok .skip w':=by simp [execOp,ho,e1]
   rw [this]; exact hK undef w' S' κ (e2 undef) e3
 · rename_i g args argTypes ho; split at h
   case h_2=>cases h
   rename_i f cap hg; split at h
   · exact still (ziU (nosel _ ho (by simp)) hE h)
   · rename_i hb; have h1:=hE g (by simp [ho,Op.operands,Call.operands]); rw [hg] at h1; obtain ⟨caps,he,hcl,hcr⟩:=h1.fn_inv
     have hvals:∀ (j:Nat) (av:AV) (x:Value),(args.toList.map E++cap)[j]?=some av→(args.map a.eval++caps)[j]?=some x→VRel S κ D w av x:=by
      intro j av x hj hx; rw [zd5] at hj; rw [aLiAs86] at hx; simp only [zap,zf4] at hj; simp only [Array.size_map] at hx; split at hj
      · rename_i hlt; rw [if_pos hlt] at hx; simp at hj hx; obtain ⟨q,hq,rfl⟩:=hj; obtain ⟨q',hq',rfl⟩:=hx; rw [hq] at hq'; injection hq' with hq'; subst hq'; exact hE q (by simp [ho,Op.operands,Call.operands]; exact .inr (zmM hq))
      · rename_i hlt; rw [if_neg hlt] at hx; exact hcr _ av x hj hx
     have hvals':∀ (j:Nat) (av:AV) (x:Value),(nrmA P argTypes.toList (args.toList.map E)++cap)[j]?=some av→(args.map a.eval++caps)[j]?=some x→VRel S κ D w av x:=by
      intro j av x hj hx; rw [zd5] at hj; split at hj
      · rename_i hlt; obtain ⟨a0,ha0,hc⟩:=zsi P _ _ j av hj
        have h0:(args.toList.map E++cap)[j]?=some a0:=by rw [zd5,if_pos (by rw [zhj] at hlt; exact hlt)]; exact ha0
        rcases hc with rfl | ⟨t',rfl⟩
        · exact hvals j _ x h0 hx
        · exact zoJ (hvals j _ x h0 hx)
      · rename_i hlt; refine hvals j av x ?_ hx; rw [zd5,if_neg (by rw [zhj] at hlt; exact hlt)]; rw [zhj] at hj; exact hj
     have enter:enters P f=true→∀ Q',Calls P f (args.map a.eval++caps) w Q'→(∀ e w',Q' e w'→∃ x,e=.returned x∧K (a.put o.dst x) w')→o.wp P a w K Q:=by
      intro hb' Q' hcalls hQ; unfold enters at hb'; split at hb'
      case h_2=>cases hb'
      rename_i fn hfn; simp only [zbK,zuf] at hb'; have hbody:¬ fn.body=none:=by cases hq:fn.body <;> simp_all
      have hname:¬ fn.name = "runtime.NumGoroutine":=by simpa using hb'.2
      have hrun:(execOp a.eval o).run P w=.ok (.enter f (args.map a.eval++caps)) w:=by simp [execOp,ho,resolve,he,Deferred.ofValue,invoke,callFunc,hfn,hbody,hname]
      unfold Oper.wp; rw [hrun]; simp only [Oper.upon]; refine hcalls.mono ?_; intro e w' hq; obtain ⟨x,rfl,hk⟩:=hQ e w' hq; exact hk
     have done:∀ (d:Option Nat) (k:Bool) (r0:Res),(∀ d',d=some d'→¬ D d')→aCall C call L d f (nrmA P argTypes.toList (args.toList.map E)++cap)=some r0→toKill k r0=some r→o.wp P a w K Q:=by
      intro d k r0 hd hc htk; obtain ⟨hb',hcalls⟩:=zz4 hcall hS hDL hinj hd hL hc (vals:=args.map a.eval++caps) (by simp [hcl,zhj]) hvals'; refine enter hb' _ hcalls ?_
      rintro e w' ⟨x,S',κ',rfl,h2,h3⟩
      obtain ⟨h4,h5⟩:=zz1 htk h2 h3; exact ⟨x,rfl,hK x w' S' κ' h4 h5⟩
     split at h
     · rename_i k0 hdp; split at h
       case isFalse=>cases h
       obtain ⟨hb',hcalls⟩:=zz8 hcall hS hDL hinj hL h (vals:=args.map a.eval++caps) (by simp [hcl,zhj]) hvals'; refine enter hb' _ hcalls ?_
       rintro e w' ⟨x,S',κ',rfl,h2,h3⟩
       exact ⟨x,rfl,hK x w' S' κ' h2 h3⟩
     split at h
     · rename_i d hd; split at h
       case isFalse=>cases h
       rename_i hdd; split at h
       case h_2=>cases h
       rename_i r0 hc; exact done (some d) (M.contains d) r0 (fun d' hd'=>by injection hd' with hd'; subst hd'; exact hdn d hdd) hc h
     · exact done none false r (fun d' hd'=>by cases hd') h rfl
 · rename_i op t x y u ho; split at h
   · rename_i cs ds hx hy; have h1:=hE x (by simp [ho,Op.operands]); have h2:=hE y (by simp [ho,Op.operands]); rw [hx] at h1; rw [hy] at h2; obtain ⟨b,e1,e2⟩:=aEq_sound (o:=o) (ρ:=a.eval) ho h h1 h2; subst e2; exact still ⟨.bool b,e1,.c (.v _),rfl,rfl,rfl,rfl⟩
   · split at h
     · rename_i r0 hn; injection h with h; subst h; obtain ⟨b,e1,e2⟩:=zzR (o:=o) (ρ:=a.eval) ho hn (hE x (by simp [ho,Op.operands])) (hE y (by simp [ho,Op.operands])); subst e2; exact still ⟨.bool b,e1,.c (.v _),rfl,rfl,rfl,rfl⟩
     · exact still (ziU (fun cs b e=>by simp_all) hE h)
 · cases h
 · rename_i hsel _; exact still (ziU (fun cs b e=>by simp_all) hE h)
end
structure Shape (o:Oper) (L:Nat→Option Ent) (r:Res):Prop where
 kill:∀ b,r.kill=some b→b ∉ ids r.set∧b < 1000
 set:∀ b∈ids r.set,(L b).isSome=true∨o.dst=some b
 frz:∀ b∈r.frz,b < 1000
 re:∀ b∈r.re,b < 1000
theorem Shape.none {o:Oper} {L:Nat→Option Ent} {r:Res} (h1:r.set=[]) (h2:r.kill=none) (h3:r.frz=[]) (h4:r.re=[]:=by rfl):Shape o L r:=
 ⟨(fun b h=>by rw [h2] at h; cases h),(fun b h=>by simp [ids,h1] at h),(fun b h=>by rw [h3] at h; cases h),(fun b h=>by rw [h4] at h; cases h)⟩
theorem Shape.one {o:Oper} {L:Nat→Option Ent} {r:Res} {d:Nat} {e:Ent} (h1:r.set=[(d,e)]) (hd:(L d).isSome=true∨o.dst=some d) (h2:∀ b,r.kill=some b→b≠d∧b < 1000) (h3:r.frz=[]) (h4:r.re=[]:=by rfl):Shape o L r:=
 ⟨fun b h=>⟨(fun hm=>by simp [ids,h1] at hm; exact (h2 b h).1 hm),(h2 b h).2⟩,(fun b h=>by simp [ids,h1] at h; subst h; exact hd),(fun b h=>by rw [h3] at h; cases h),(fun b h=>by rw [h4] at h; cases h)⟩
theorem zvg {L:Nat→Option Ent} {wr:List Nat}:∀ (args:List AV) (k:Nat) (as:List AV) (ms:Mem) (bk:List (Nat×Nat)) (fz:List Nat),zcr L wr k args=some (as,ms,bk,fz)→∀ p∈bk,(L p.1).isSome=true:=by
 intro args
 induction args with
 | nil=>intro k as ms bk fz h p hp; simp [zcr] at h; obtain ⟨_,_,rfl,_⟩:=h; cases hp
 | cons a r ih =>
   intro k as ms bk fz h p hp; simp only [zcr] at h
   cases hr:zcr L wr (k+1) r with
   | none=>simp [hr] at h
   | some q =>
     obtain ⟨as0,ms0,bk0,fz0⟩:=q; simp only [hr] at h; have i:=ih (k+1) as0 ms0 bk0 fz0 hr; split at h <;> rename_i hcnd <;> clear hcnd
     · split at h
       · rename_i b z
         cases hl:L b with
         | none=>simp [hl] at h
         | some ent =>
           simp only [hl] at h; split at h
           case isFalse=>cases h
           simp only [zat,zaG] at h; obtain ⟨_,_,rfl,_⟩:=h; rcases za1.1 hp with rfl | hp
           · simp [hl]
           · exact i p hp
       · rename_i b z off n
         cases hl:L b with
         | none=>simp [hl] at h
         | some ent =>
           simp only [hl] at h; split at h
           case isFalse=>cases h
           simp only [zat,zaG] at h; obtain ⟨_,_,rfl,_⟩:=h; rcases za1.1 hp with rfl | hp
           · simp [hl]
           · exact i p hp
       · rename_i b
         cases hl:L b with
         | none=>simp [hl] at h
         | some ent =>
           simp only [hl] at h; split at h
           case isFalse=>cases h
           simp only [zat,zaG] at h; obtain ⟨_,_,rfl,_⟩:=h; rcases za1.1 hp with rfl | hp
           · simp [hl]
           · exact i p hp
       · cases h
     · split at h
       · split at h
         · rename_i b z n
           cases hl:L b with
           | none=>simp [hl] at h
           | some ent =>
             simp only [hl] at h; split at h
             case isFalse=>cases h
             simp only [zat,zaG] at h; obtain ⟨_,_,rfl,_⟩:=h; rcases za1.1 hp with rfl | hp
             · simp [hl]
             · exact i p hp
         · cases h
       cases hs:snap L 5 a with
       | none=>simp [hs] at h
       | some a'=>simp only [hs,zat,zaG] at h; obtain ⟨_,_,rfl,_⟩:=h; exact i p hp
theorem zx0 {L:Nat→Option Ent} {wr:List Nat} {args:List AV} {k:Nat} {as:List AV} {ms:Mem} {bk:List (Nat×Nat)} {fz:List Nat} (h:zcr L wr k args=some (as,ms,bk,fz)):(∀ p∈bk,p.2 < 1000→p.1 < 1000)∧(bk.map (·.1)).Nodup:=by
 have key:∀ (args:List AV) (k:Nat) (as:List AV) (ms:Mem) (bk:List (Nat×Nat)) (fz:List Nat),zcr L wr k args=some (as,ms,bk,fz)→(∀ p∈bk,p.2 < 1000→p.1 < 1000)∧(bk.map (·.1)).Nodup:=by
  intro args
  induction args with
  | nil=>intro k as ms bk fz h; simp [zcr] at h; obtain ⟨_,_,rfl,_⟩:=h; simp
  | cons a r ih =>
    intro k as ms bk fz h; simp only [zcr] at h
    cases hr:zcr L wr (k+1) r with
    | none=>simp [hr] at h
    | some q =>
      obtain ⟨as0,ms0,bk0,fz0⟩:=q; simp only [hr] at h; obtain ⟨i1,i2⟩:=ih (k+1) as0 ms0 bk0 fz0 hr
      have cons:∀ (b m:Nat),(m < 1000→b < 1000)→(bk0.all (fun p=>p.1≠b))=true→(∀ p∈(b,m) :: bk0,p.2 < 1000→p.1 < 1000)∧(((b,m) :: bk0).map (·.1)).Nodup:=by
       intro b m hbm hall; refine ⟨fun p hp=>?_,?_⟩
       · rcases za1.1 hp with rfl | hp
         · exact hbm
         · exact i1 p hp
       · simp only [zco,zfD]; refine ⟨fun hm=>?_,i2⟩; obtain ⟨q,hq,e⟩:=zbC.1 hm; have:=zbQ.1 hall q hq; simp at this; exact this e
      split at h
      · split at h
        · split at h
          · split at h
            · rename_i hc; simp only [zat,zaG] at h; obtain ⟨_,_,rfl,_⟩:=h; exact cons _ _ (by omega) hc.2.2.2
            · cases h
          · cases h
        · split at h
          · split at h
            · rename_i hc; simp only [zat,zaG] at h; obtain ⟨_,_,rfl,_⟩:=h; exact cons _ _ (by omega) hc.2.2.2
            · cases h
          · cases h
        · split at h
          · split at h
            · rename_i hc; simp only [zat,zaG] at h; obtain ⟨_,_,rfl,_⟩:=h; exact cons _ _ (by omega) hc.2.2
            · cases h
          · cases h
        · cases h
      · split at h
        · split at h
          · split at h
            · split at h
              · rename_i hc; simp only [zat,zaG] at h; obtain ⟨_,_,rfl,_⟩:=h; exact cons _ _ (fun _=>hc.2.2.2.2.1) hc.2.2.2.2.2.2
              · cases h
            · cases h
          · cases h
        · split at h
          · simp only [zat,zaG] at h; obtain ⟨_,_,rfl,_⟩:=h; exact ⟨i1,i2⟩
          · cases h
 exact key args k as ms bk fz h
theorem zuS {C:Cfg} {call:zbu} {o:Oper} {L:Nat→Option Ent} {f:FuncId} {args:List AV} {r:Res} (hdn:∀ d,o.dst=some d→(L d).isSome=false) (h:aCall C call L o.dst f args=some r):Shape o L r:=by
 unfold aCall at h; split at h
 · cases h
 · rename_i as ms bk fz hp; split at h
   case isFalse=>cases h
   split at h
   · cases h
   · split at h
     · cases h
     · rename_i back hback; obtain ⟨b1,b2⟩:=zrO hback; obtain ⟨hgv,hnd⟩:=zx0 hp
       have hb:∀ b∈ids back,(L b).isSome=true:=by intro b hb; rw [b1] at hb; obtain ⟨p,hp',rfl⟩:=zbC.1 hb; exact zvg args 0 as ms bk fz hp p (zd9.1 hp').1
       split at h
       case isFalse=>cases h
       rename_i hall; have hfz:=fun b hb=>of_decide_eq_true (zbQ.1 hall b hb)
       split at h
       case h_2=>cases h
       rename_i res hres; obtain ⟨hkr,hgk⟩:=zvr h (ztM hres); subst hkr
       have hk:∀ b,(zbZ bk).head?=some b→b ∉ ids back∧b < 1000∧(L b).isSome=true:=by
        intro b hb'; obtain ⟨k,q1,q2⟩:=ziY.1 ((hgk b).2 hb'); refine ⟨fun hm=>?_,hgv _ q1 q2,zvg args 0 as ms bk fz hp _ q1⟩; rw [b1] at hm; obtain ⟨p,hp',e⟩:=zbC.1 hm; obtain ⟨p1,p2⟩:=zd9.1 hp'
        have:p=(b,k):=by
         have nd:∀ l:List (Nat×Nat),(l.map (·.1)).Nodup→∀ x y,x∈l→y∈l→x.1=y.1→x=y:=by
          intro l hn
          induction l with
          | nil=>intro x y h; cases h
          | cons q l ihl =>
            intro x y h1 h2 e; simp only [zco,zfD] at hn; rcases za1.1 h1 with rfl | h1'
            · rcases za1.1 h2 with rfl | h2'
              · rfl
              · exact absurd (zbC.2 ⟨_,h2',e.symm⟩) hn.1
            · rcases za1.1 h2 with rfl | h2'
              · exact absurd (zbC.2 ⟨_,h1',e⟩) hn.1
              · exact ihl hn.2 x y h1' h2' e
         exact nd bk hnd p (b,k) p1 q1 e
        rw [this] at p2; simp at p2; omega
       have fin:∀ (v:AV) (fz':List Nat),(∀ b∈fz',b < 1000)→Shape o L { val:=v,set:=back,frz:=fz',kill:=(zbZ bk).head? }:=by intro v fz' hf; exact ⟨fun b hk'=>⟨(hk b hk').1,(hk b hk').2.1⟩,fun b hm=>.inl (hb b hm),hf,fun b hm=>by cases hm⟩
       have fin2:∀ (v:AV) (d:Nat) (e:Ent),o.dst=some d→(L d).isSome=false→∀ fz',(∀ b∈fz',b < 1000)→Shape o L { val:=v,set:=(d,e) :: back,frz:=fz',kill:=(zbZ bk).head? }:=by
        intro v d e hd hn fz' hf; refine ⟨fun b hk'=>⟨fun hm=>?_,(hk b hk').2.1⟩,fun b hm=>?_,hf,fun b hm=>by cases hm⟩
        · simp only [ids,zco,za1] at hm; rcases hm with rfl | hm
          · have:=(hk _ hk').2.2; rw [hn] at this; cases this
          · exact (hk b hk').1 hm
        · simp only [ids,zco,za1] at hm; rcases hm with rfl | hm
          · exact .inr hd
          · exact .inl (hb b hm)
       unfold zoH at hres; split at hres
       · injection hres with hres; subst hres; exact fin2 _ _ _ (by assumption) (hdn _ (by assumption)) _ hfz
       · injection hres with hres; subst hres; exact fin2 _ _ _ (by assumption) (hdn _ (by assumption)) _ hfz
       · injection hres with hres; subst hres; exact fin2 _ _ _ (by assumption) (hdn _ (by assumption)) _ hfz
       · cases hres
       · cases hres
       · cases hres
       · split at hres
         · injection hres with hres; subst hres; exact fin _ _ hfz
         · cases hres
       · split at hres
         · injection hres with hres; subst hres; exact fin _ _ hfz
         · cases hres
       · cases hres
       · injection hres with hres; subst hres; exact fin _ _ hfz
theorem zz7 {call:zbu} {o:Oper} {L:Nat→Option Ent} {f:FuncId} {k0:Nat} {args:List AV} {r:Res} (h:aDeep call L f k0 args=some r):Shape o L r:=by
 unfold aDeep at h; split at h
 case h_2=>cases h
 rename_i b z hk0; split at h
 case h_2=>cases h
 rename_i ent hlb; split at h
 case isFalse=>cases h
 split at h
 case h_2=>cases h
 rename_i cs hes; split at h
 case h_2=>cases h
 rename_i cs' nms nbk as fz hnest hda; split at h
 case isFalse=>cases h
 rename_i hcond; obtain ⟨hz,hbx,hnb,hfz⟩:=hcond; split at h
 case h_2=>cases h
 rename_i rv ms' hc; obtain ⟨n1,n2,n3,n4,n5,n6,n7⟩:=zyw cs 900 cs' nms nbk hnest; unfold dRes at h; split at h
 case isFalse=>cases h
 split at h
 case h_2=>cases h
 rename_i ent1 bck hl1 hbn; split at h
 case h_2=>cases h
 split at h
 case h_2=>cases h
 injection h with h; subst h; obtain ⟨b1,b2⟩:=zrN nbk bck hbn; refine ⟨(fun c hc=>by cases hc),fun c hc=>?_,fun c hc=>?_,fun c hc=>?_⟩
 · have:c=b∨c∈ids bck:=by simpa [ids] using hc
   rcases this with rfl | hm
   · exact .inl (by simp [hlb])
   · rw [b1] at hm; obtain ⟨p,hp,rfl⟩:=zbC.1 hm; exact .inl (n3 p hp).2.2.2
 · have h1:=zbQ.1 hfz c hc; simp only [zbK,decide_eq_true_eq] at h1; exact h1.1
 · obtain ⟨p,hp,rfl⟩:=zbC.1 hc; exact (n3 p hp).2.2.1
theorem zz0 {k:Bool} {o:Oper} {L:Nat→Option Ent} {r r0:Res} (h:toKill k r0=some r) (hs:Shape o L r0):Shape o L r:=by
 unfold toKill at h; split at h
 · rename_i b rest hf hk; split at h
   case isFalse=>cases h
   rename_i hc; simp only [zat] at h; subst h; refine ⟨fun c hm=>?_,hs.set,(fun c hm=>by cases hm),hs.re⟩; injection hm with hm; subst hm; refine ⟨fun hi=>?_,hs.frz b (by rw [hf]; exact ziR)⟩; obtain ⟨p,hp,e⟩:=zbC.1 hi; have:=zbQ.1 hc.2.1 p hp; simp only [bne_iff_ne] at this; exact this e
 · simp only [zat] at h; subst h; exact hs
theorem ziT {P:Program} {o:Oper} {E:Operand→AV} {L:Nat→Option Ent} {r:Res} (h:aPure P o E=some r):Shape o L r:=by
 unfold aPure at h
 repeat' (split at h)
 all_goals first | (injection h with h; subst h; exact Shape.none rfl rfl rfl) | cases h
theorem zuV {P:Program} {o:Oper} {L:Nat→Option Ent} {t:TypeId} {m k x:AV} {r:Res} (h:aMSet P L t m k x=some r):Shape o L r:=by
 unfold aMSet at h; split at h
 case h_2=>cases h
 split at h
 case h_2=>cases h
 split at h
 case h_2=>cases h
 rename_i ent hl; split at h
 case isFalse=>cases h
 rename_i hc; split at h
 case h_2=>cases h
 split at h
 case isFalse=>cases h
 split at h
 case h_2=>cases h
 injection h with h; subst h; refine ⟨(fun b hk=>by cases hk),(fun b hm=>by simp [ids] at hm; subst hm; exact .inl (by simp [hl])),fun b hb=>?_,fun b hb=>by cases hb⟩; have:=zbQ.1 hc.2.2.2 b hb; simp only [zbK,decide_eq_true_eq] at this; exact this.1
theorem aop_shape {P:Program} {C:Cfg} {M:List Nat} {call:zbu} {o:Oper} {E:Operand→AV} {L:Nat→Option Ent} {r:Res} (h:aop P C M call o E L=some r):Shape o L r:=by
 unfold aop at h; split at h
 all_goals try (first
  | exact ziT h
  | (injection h with h; subst h; exact Shape.none rfl rfl rfl)
  | cases h)
 · repeat' (split at h)
   all_goals first | (injection h with h; subst h; exact Shape.none rfl rfl rfl) | cases h
 · split at h
   case h_2=>cases h
   rename_i d zero n hd hz hn; split at h
   case isFalse=>cases h
   split at h
   · unfold aArr at h
     repeat' (split at h)
     all_goals first | (injection h with h; subst h; exact Shape.one rfl (.inr hd) (fun b hk=>by cases hk) rfl) | cases h
   injection h with h; subst h; exact Shape.one rfl (.inr hd) (fun b hk=>by cases hk) rfl
 · split at h
   case h_2=>cases h
   rename_i d hd; split at h
   case isFalse=>cases h
   injection h with h; subst h; exact Shape.one rfl (.inr hd) (fun b hk=>by cases hk) rfl
 · unfold aBuild at h
   repeat' (split at h)
   all_goals first | (injection h with h; subst h; exact Shape.none rfl rfl rfl) | cases h
 · split at h
   case h_2=>cases h
   rename_i d hd; split at h
   · split at h
     case isFalse=>cases h
     unfold zk2 at h
     repeat' (split at h)
     all_goals first | (injection h with h; subst h; exact Shape.one rfl (.inr hd) (fun b hk=>by cases hk) rfl) | cases h
   · unfold aLit at h
     repeat' (split at h)
     all_goals first | (injection h with h; subst h; exact Shape.none rfl rfl rfl) | cases h
 · unfold aLoad at h
   repeat' (split at h)
   all_goals first | (injection h with h; subst h; exact Shape.none rfl rfl rfl) | cases h
 · unfold aStore at h; split at h
   case h_2=>cases h
   split at h
   case h_2=>cases h
   rename_i ent n hl hs; split at h
   case isFalse=>cases h
   split at h
   case h_2=>cases h
   split at h
   case isFalse=>cases h
   injection h with h; subst h; exact Shape.one rfl (.inl (by simp [hl])) (fun b hk=>by cases hk) rfl
 · repeat' (split at h)
   all_goals first | (injection h with h; subst h; exact Shape.none rfl rfl rfl) | cases h
 · repeat' (split at h)
   all_goals first | (injection h with h; subst h; exact Shape.none rfl rfl rfl) | cases h
 · unfold aField at h
   repeat' (split at h)
   all_goals first | (injection h with h; subst h; exact Shape.none rfl rfl rfl) | cases h
 · repeat' (split at h)
   all_goals first | (injection h with h; subst h; exact Shape.none rfl rfl rfl) | cases h
 · unfold aIndex at h
   repeat' (split at h)
   all_goals first | (injection h with h; subst h; exact Shape.none rfl rfl rfl) | cases h
 · repeat' (split at h)
   all_goals first | exact ziT h | (injection h with h; subst h; exact Shape.none rfl rfl rfl) | cases h
 · split at h
   · exact ziT h
   · unfold aSlice at h
     repeat' (split at h)
     all_goals first | (injection h with h; subst h; exact Shape.none rfl rfl rfl) | cases h
 · split at h
   · injection h with h; subst h; exact Shape.none rfl rfl rfl
   · cases h
 · split at h
   case h_2=>cases h
   rename_i d hd; split at h
   case isFalse=>cases h
   split at h
   · unfold aMakeL at h
     repeat' (split at h)
     all_goals first | (injection h with h; subst h; exact Shape.none rfl rfl rfl) | cases h
   unfold aMake at h
   repeat' (split at h)
   all_goals first | (injection h with h; subst h; exact Shape.one rfl (.inr hd) (fun b hk=>by cases hk) rfl) | cases h
 · split at h
   case h_2=>cases h
   rename_i d s x t t' hd ha ht; split at h
   case isFalse=>cases h
   unfold ziN at h
   repeat' (split at h)
   all_goals try (cases h; done)
   · injection h with h; subst h; exact Shape.one rfl (.inr hd) (fun b hk=>by cases hk) rfl
   · rename_i hc; injection h with h; subst h; refine Shape.one rfl (.inr hd) (fun b hk=>?_) rfl; injection hk with hk; subst hk; exact ⟨hc.2.1,hc.1⟩
 · split at h
   case h_2=>cases h
   unfold aCopy at h; split at h
   case h_2=>cases h
   split at h
   case h_2=>cases h
   split at h
   case h_2=>cases h
   rename_i ent new hl hsrc; split at h
   case isFalse=>cases h
   injection h with h; subst h; exact Shape.one rfl (.inl (by simp [hl])) (fun b hk=>by cases hk) rfl
 · split at h
   case h_2=>cases h
   unfold aClear at h; split at h
   case h_2=>cases h
   split at h
   case h_2=>cases h
   split at h
   case h_2=>cases h
   rename_i ent hl; split at h
   case isFalse=>cases h
   injection h with h; subst h; exact Shape.one rfl (.inl (by simp [hl])) (fun b hk=>by cases hk) rfl
 · split at h
   case h_2=>cases h
   split at h
   · exact ziT h
   · unfold aLen at h
     repeat' (split at h)
     all_goals first | (injection h with h; subst h; exact Shape.none rfl rfl rfl) | cases h
   · unfold aMLen at h
     repeat' (split at h)
     all_goals first | (injection h with h; subst h; exact Shape.none rfl rfl rfl) | cases h
   · cases h
 · split at h
   case h_2=>cases h
   unfold aMDel at h; split at h
   case h_2=>cases h
   split at h
   case h_2=>cases h
   split at h
   case h_2=>cases h
   rename_i ent hl; split at h
   case isFalse=>cases h
   split at h
   case h_2=>cases h
   injection h with h; subst h; exact Shape.one rfl (.inl (by simp [hl])) (fun b hk=>by cases hk) rfl
 · split at h
   case h_2=>cases h
   rename_i d hd; split at h
   case isFalse=>cases h
   unfold aMkMap at h; split at h
   · injection h with h; subst h; exact Shape.one rfl (.inr hd) (fun b hk=>by cases hk) rfl
   · cases h
 · unfold aMLook at h
   repeat' (split at h)
   all_goals first | (injection h with h; subst h; exact Shape.none rfl rfl rfl) | cases h
 · exact zuV h
 · exact zuV h
 · split at h
   case h_2=>cases h
   split at h
   · exact ziT h
   · split at h
     · split at h
       · exact zz7 h
       · cases h
     split at h
     · rename_i d hd; split at h
       case isFalse=>cases h
       rename_i hnone; split at h
       case h_2=>cases h
       rename_i r0 hc; rw [← hd] at hc; refine zz0 h (zuS (fun d' hd'=>?_) hc); rw [hd] at hd'; injection hd' with hd'; subst hd'; simpa using hnone
     · rename_i hd; rw [← hd] at h; exact zuS (fun d' hd'=>by rw [hd] at hd'; cases hd') h
 · split at h
   · unfold aEq at h
     repeat' (split at h)
     all_goals first | (injection h with h; subst h; exact Shape.none rfl rfl rfl) | cases h
   · split at h
     · rename_i r0 hn; injection h with h; subst h; unfold nilCmp nilOp at hn
       repeat' (split at hn)
       all_goals first | (injection hn with hn; subst hn; exact Shape.none rfl rfl rfl) | cases hn
     · exact ziT h
def frzO (bs:List Nat) (L:Nat→Option Ent) (a:AV):AV:=match bs with
 | []=>a
 | bs=>zcS bs L 4 a
def killO (b:Option Nat) (a:AV):AV:=match b with
 | some b=>a.kill b 4
 | none=>a
def frzLO (bs:List Nat) (L:Nat→Option Ent):Nat→Option Ent:=match bs with
 | []=>L
 | bs=>frzL bs L
def killLO (b:Option Nat) (L:Nat→Option Ent):Nat→Option Ent:=match b with
 | some b=>killL b L
 | none=>L
def killR:List Nat→AV→AV
 | [],a=>a
 | b :: bs,a=>killR bs (a.kill b 4)
def killLR:List Nat→(Nat→Option Ent)→Nat→Option Ent
 | [],L=>L
 | b :: bs,L=>killLR bs (killL b L)
def applyT (dst:Option Nat) (r:Res) (T:Nat→AV) (L:Nat→Option Ent):Nat→AV:=fun k=>if dst=some k then r.val else killR r.re (killO r.kill (frzO r.frz L (T k)))
def applyL (r:Res) (L:Nat→Option Ent):Nat→Option Ent:=fun c=>match look r.set c with
 | some e=>some e
 | none=>killLR r.re (killLO r.kill (frzLO r.frz L)) c
theorem zxh:∀ (bs:List Nat) (st:St) (k:Nat),get (delAll bs st).t k=killR bs (get st.t k)
 | [],st,k=>rfl
 | b :: bs,st,k=>by simp only [delAll,killR]; rw [zxh bs (del b st) k]; simp only [del]; rw [zjU]
theorem zvd:∀ (bs:List Nat) (st:St),look (delAll bs st).m=killLR bs (look st.m)
 | [],st=>rfl
 | b :: bs,st=>by
   simp only [delAll,killLR]; rw [zvd bs (del b st)]; have:look (del b st).m=killL b (look st.m):=funext fun c=>zeV b st.m c
   rw [this]
theorem zpW (p:Nat×Ent):∀ (m:Mem) (c:Nat),(look m p.1).isSome=true→look (repM p m) c=if c=p.1 then some p.2 else look m c
 | [],c,h=>by simp [look] at h
 | (j,e) :: r,c,h=>by
   simp only [repM]; split
   · rename_i hj; simp only [look]; by_cases hc:c=p.1
     · rw [if_pos hc,if_pos hc]
     · rw [if_neg hc,if_neg hc,if_neg (by rw [← hj]; exact hc)]
   · rename_i hj; simp only [look] at h ⊢; rw [if_neg hj] at h; by_cases hc:c=j
     · rw [if_pos hc,if_pos hc,if_neg (by rw [hc]; exact fun e=>hj e.symm)]
     · rw [if_neg hc,if_neg hc]; exact zpW p r c h
theorem look_setM (p:Nat×Ent) (m:Mem) (c:Nat):look (setM p m) c=if c=p.1 then some p.2 else look m c:=by
 unfold setM; split
 · rename_i e he; exact zpW p m c (by rw [he]; rfl)
 · rfl
theorem zve:∀ (l:List (Nat×Ent)) (m:Mem) (c:Nat),look (setAll l m) c=match look l c with | some e=>some e | none=>look m c
 | [],m,c=>rfl
 | (j,e) :: r,m,c=>by
   simp only [setAll,look_setM,look]; split
   · rfl
   · exact zve r m c
theorem get_apply (dst:Option Nat) (r:Res) (st:St) (k:Nat):get (applyR dst r st).t k=applyT dst r (get st.t) (look st.m) k:=by
 have h1:∀ j,get (zct r.frz st).t j=frzO r.frz (look st.m) (get st.t j):=by
  intro j; unfold zct frzO
  cases r.frz with
  | nil=>rfl
  | cons b bs=>exact zqo _ _ _ _
 simp only [applyR,applyT]
 have h2':∀ j,get (match r.kill with | some b=>del b (zct r.frz st) | none=>zct r.frz st).t j=killO r.kill (frzO r.frz (look st.m) (get st.t j)):=by
  intro j
  cases r.kill with
  | none=>exact h1 j
  | some b=>simp only [del,killO]; rw [zjU,h1]
 have h2:∀ j,get (delAll r.re (match r.kill with | some b=>del b (zct r.frz st) | none=>zct r.frz st)).t j=killR r.re (killO r.kill (frzO r.frz (look st.m) (get st.t j))):=by intro j; rw [zxh,h2']
 cases dst with
 | none=>rw [if_neg (by simp)]; exact h2 k
 | some d =>
   simp only [putO,get]; by_cases hk:k=d
   · subst hk; simp
   · have:¬ (some d=some k):=fun e=>hk (by injection e with e; exact e.symm)
     rw [if_neg hk,if_neg this]; exact h2 k
theorem look_apply (dst:Option Nat) (r:Res) (st:St) (c:Nat):look (applyR dst r st).m c=applyL r (look st.m) c:=by
 have h1:∀ j,look (zct r.frz st).m j=frzLO r.frz (look st.m) j:=by
  intro j; unfold zct frzLO
  cases r.frz with
  | nil=>rfl
  | cons b bs=>simp only [frzL]; exact zpq _ _ _ _
 simp only [applyR,applyL]; rw [zve]; split
 · rfl
 · rw [zvd]
   have h2:look (match r.kill with | some b=>del b (zct r.frz st) | none=>zct r.frz st).m=killLO r.kill (frzLO r.frz (look st.m)):=by
    funext c
    cases r.kill with
    | none=>exact h1 c
    | some b=>simp only [del,killLO]; rw [zeV]; have:look (zct r.frz st).m=frzLO r.frz (look st.m):=funext h1; rw [this]
   exact congrFun (congrArg (killLR r.re) h2) c
theorem zwe:∀ {m:List (Nat×Ent)} {b:Nat},(look m b).isSome=true↔b∈ids m:=by
 intro m b; constructor
 · intro h; obtain ⟨e,he⟩:=zb0.1 h; exact zbC.2 ⟨_,zih he,rfl⟩
 · exact zfp
section
variable {w0:World} {S0:Nat→Prop} {κ0:Kap} {K:Nat→Prop} {N:Nat} {S:Nat→Prop} {κ:Kap} {T:Nat→AV} {L:Nat→Option Ent} {a:Act} {w:World}
theorem tmps_put (a:Act) (dst:Option Nat) (y:Value) (hd:dstOk a.tmps.size dst=true) (k:Nat):(a.put dst y).tmps.getD k undef=if dst=some k then y else a.tmps.getD k undef:=by
 cases dst with
 | none=>simp [Act.put]
 | some d =>
   simp [dstOk] at hd; by_cases hk:d=k
   · subst hk; simp [Act.put,hd]
   · have:¬ (some d=some k):=fun e=>hk (by injection e)
     rw [if_neg this]; simp [Act.put,aLiAs32 hk]
theorem zva:∀ {bs:List Nat} {L:Nat→Option Ent} {b:Nat},b ∉ bs→((killLR bs L b).isSome=true↔(L b).isSome=true)
 | [],L,b,_=>Iff.rfl
 | c :: cs,L,b,h=>by
   have h1:b≠c:=fun e=>h (by simp [e])
   have h2:b ∉ cs:=fun e=>h (by simp [e])
   simp only [killLR]; rw [zva h2]; simp [killL,h1]
theorem zyl:∀ {bs:List Nat} {L:Nat→Option Ent} {b:Nat} {e:Ent},killLR bs L b=some e→b ∉ bs→∃ e0,L b=some e0∧e=(if e0.box then { e0 with es:=e0.es.map fun cs=>cs.map (killR bs) } else e0)
 | [],L,b,e,h,_=>⟨e,h,by
   have:killR []=id:=rfl
   simp [this]⟩
 | c :: cs,L,b,e,h,hn=>by
   have h1:b≠c:=fun e=>hn (by simp [e])
   have h2:b ∉ cs:=fun e=>hn (by simp [e])
   simp only [killLR] at h; obtain ⟨e1,h3,h4⟩:=zyl h h2; simp only [killL,h1,if_false] at h3
   cases hl:L b with
   | none=>simp [hl] at h3
   | some e0 =>
     simp [hl] at h3; refine ⟨e0,rfl,?_⟩; rw [h4,← h3]; unfold killE; cases hb:e0.box
     · simp [hb]
     · simp [killR,aLiAs88]
theorem zvb {S:Nat→Prop} {κ:Kap} {w:World}:∀ (bs:List Nat) {D D':Nat→Prop} {a:AV} {x:Value},(∀ c,D c→c ∉ bs→D' c)→VRel S κ D w a x→VRel S κ D' w (killR bs a) x
 | [],D,D',a,x,hD,h=>h.mono (fun _ h=>h) (fun _ _=>rfl) (fun c hc=>hD c hc (by simp)) (fun _ _=>rfl)
 | b :: bs,D,D',a,x,hD,h=>zvb bs (D:=fun c=>D c∧c≠b) (fun c hc hn=>hD c hc.1 (fun hm=>by
     rcases za1.1 hm with rfl | hm
     · exact hc.2 rfl
     · exact hn hm)) (zon (fun c hc hne=>⟨hc,hne⟩) 4 h)
theorem Good.apply {o:Oper} {r:Res} {y:Value} {w':World} {S':Nat→Prop} {κ':Kap} (h:Good w0 S0 κ0 K N S κ T L a w) (hN:N≤1000) (hdst:dstOk N o.dst=true)
  (he:EffAt S κ (fun b=>(L b).isSome=true) w S' κ' r y w') (hdis:Dis (fun b=>(L b).isSome=true) r) (hsh:Shape o L r):Good w0 S0 κ0 K N S' κ' (applyT o.dst r T L) (applyL r L) (a.put o.dst y) w':=by
 let S1:Nat→Prop:=fun g=>S g∨∃ b c,b∈r.frz∧(L b).isSome=true∧κ b=some (g,c)
 have hblockLt:∀ b g c,(L b).isSome=true→κ b=some (g,c)→g < w.heap.size∧¬ S g:=by intro b g c hb hk; obtain ⟨ent,hent⟩:=zb0.1 hb; have:=h.ents b ent hent; rw [hk] at this; exact ⟨this.lt,this.notS⟩
 have hset:∀ b,b∈ids r.set→¬ (L b).isSome=true→b < 1000:=by
  intro b hb hn; rcases hsh.set b hb with h1 | h1
  · exact absurd h1 hn
  · rw [h1] at hdst; simp [dstOk] at hdst; omega
 have hDiff:∀ b,(applyL r L b).isSome=true↔D1 (fun b=>(L b).isSome=true) r b:=by
  intro b; have hl:(look r.set b).isSome=true↔b∈ids r.set:=zwe
  have hk0:(killLO r.kill (frzLO r.frz L) b).isSome=true↔((L b).isSome=true∧r.kill≠some b∧b ∉ r.frz):=by
   have h1:(frzLO r.frz L b).isSome=true↔(L b).isSome=true∧b ∉ r.frz:=by
    unfold frzLO
    cases hf:r.frz with
    | nil=>simp
    | cons c cs =>
      simp only [frzL]; by_cases hm:(c :: cs).contains b=true
      · have:b∈c :: cs:=by simpa using hm
        simp [this]
      · have:b ∉ c :: cs:=by simpa using hm
        simp only [hm,zcn,if_false,Option.isSome_map,this,not_false_eq_true,and_true]
   unfold killLO
   cases hq:r.kill with
   | none=>simp [h1]
   | some c =>
     simp only [killL]; by_cases hbc:b=c
     · subst hbc; simp
     · have:c≠b:=fun e=>hbc e.symm
       simp [hbc,h1,this]
  have hk:b ∉ ids r.set→((killLR r.re (killLO r.kill (frzLO r.frz L)) b).isSome=true↔((L b).isSome=true∧r.kill≠some b∧b ∉ r.frz)):=fun hn=>by
   rw [← hk0]; have hre:b ∉ r.re:=fun hm=>hn (he.res b hm)
   exact zva hre
  unfold applyL D1
  cases hq:look r.set b with
  | some e=>have:b∈ids r.set:=hl.1 (by simp [hq]); simp [this]
  | none =>
    have:b ∉ ids r.set:=fun hm=>by have:=hl.2 hm; rw [hq] at this; cases this
    simp only [this,or_false]; exact hk this
 have hS1w:∀ g,S1 g→w'.heap[g]?=w.heap[g]?:=by
  intro g hg; rcases hg with hg | ⟨b,c,hb,hd,hk⟩
  · exact he.blk g (h.slt g hg) (fun b c _ hd hk=>(hblockLt b g c hd hk).2 hg)
  · refine he.blk g (hblockLt b g c hd hk).1 (fun b' c' hb' hd' hk'=>?_); have:b'=b:=h.inj b' b g c' c hd' hd hk' hk; subst this; obtain ⟨_,h2,h3⟩:=hdis b' hb; rcases hb' with hm | hm
    · exact h2 hm
    · exact h3 hm
 have hS1':∀ g,S1 g→S' g:=by
  intro g hg; rcases hg with hg | ⟨b,c,hb,_,hk⟩
  · exact he.sup g hg
  · exact he.sfrz b hb g c hk
 have hDold:∀ b,(L b).isSome=true→r.kill≠some b→b ∉ r.frz→(applyL r L b).isSome=true:=fun b h1 h2 h3=>(hDiff b).2 (.inl ⟨h1,h2,h3⟩)
 have hval:∀ (av:AV) (x:Value),VRel S κ (fun b=>(L b).isSome=true) w av x→VRel S' κ' (fun b=>(applyL r L b).isSome=true) w' (killR r.re (killO r.kill (frzO r.frz L av))) x:=by
  intro av x hv
  have h1:VRel S1 κ (fun b=>(L b).isSome=true∧b ∉ r.frz) w (frzO r.frz L av) x:=by
   cases hf:r.frz with
   | nil=>exact hv.mono (fun _ h=>.inl h) (fun _ _=>rfl) (fun b hb=>⟨hb,by simp⟩) (fun _ _=>rfl)
   | cons q qs =>
     refine zzN (bs:=q :: qs) h.ents (fun _ h=>.inl h) (fun b hb hd g c hk=>.inr ⟨b,c,by rw [hf]; exact hb,hd,hk⟩) (fun c hc hn=>⟨hc,?_⟩) 4 hv; intro hm; have:(q :: qs).contains c=true:=by simpa using hm
     rw [this] at hn; cases hn
  have h2:VRel S1 κ (fun b=>(L b).isSome=true∧r.kill≠some b∧b ∉ r.frz) w (killO r.kill (frzO r.frz L av)) x:=by
   cases hk:r.kill with
   | some b=>exact zon (fun c hc hne=>⟨hc.1,fun e=>hne (by injection e with e; exact e.symm),hc.2⟩) 4 h1
   | none=>exact h1.mono (fun _ h=>h) (fun _ _=>rfl) (fun b hb=>⟨hb.1,by simp,hb.2⟩) (fun _ _=>rfl)
  have h3:VRel S1 κ (fun b=>((L b).isSome=true∧r.kill≠some b∧b ∉ r.frz)∧b ∉ r.re) w (killR r.re (killO r.kill (frzO r.frz L av))) x:=zvb r.re (fun c hc hn=>⟨hc,hn⟩) h2; exact h3.mono hS1' hS1w (fun b hb=>hDold b hb.1.1 hb.1.2.1 hb.1.2.2) (fun b hb=>he.kold b hb.1.1 hb.2)
 have hcases:∀ b,(applyL r L b).isSome=true→((L b).isSome=true∧b ∉ r.re∧κ' b=κ b)∨(((L b).isSome=true→b∈r.re)∧b∈ids r.set):=by
  intro b hb; by_cases hre:b∈r.re
  · exact .inr ⟨fun _=>hre,he.res b hre⟩
  by_cases hl:(L b).isSome=true
  · exact .inl ⟨hl,hre,he.kold b hl hre⟩
  · rcases (hDiff b).1 hb with h1 | h1
    · exact absurd h1.1 hl
    · exact .inr ⟨fun h=>absurd h hl,h1⟩
 exact {
  defers:=by cases o.dst <;> exact h.defers
  size:=by have:=h.size; cases hd:o.dst <;> simp [Act.put,this]
  os:=he.os.trans h.os
  tape:=he.tape.trans h.tape
  output:=h.output.trans he.output
  grow:=zdy h.grow he.size
  old:=fun g hg hK=>by
   rw [he.blk g (zlF hg h.grow) ?_]
   · exact h.old g hg hK
   · intro b c hb hd hk; by_cases hb1:b < 1000
     · rcases h.own b g c hb1 hd hk with q | ⟨b',c',_,q2,q3⟩
       · omega
       · exact hK b' c' q2 q3
     · have h1:=h.par b (by omega); exact hK b c (h.parK b (by omega) hd) (by rw [← h1]; exact hk)
  sup:=fun g hg=>he.sup g (h.sup g hg)
  snew:=fun g hg=>by
   rcases he.snew g hg with h1 | h1 | ⟨b,c,hb,hd,hk⟩
   · exact h.snew g h1
   · exact .inr (.inl (zdy h.grow h1))
   · exact .inr (h.own b g c (hb.elim (hsh.frz b) (fun q=>q.elim (fun q=>(hsh.kill b q).2) (hsh.re b))) hd hk)
  slt:=he.slt
  par:=fun b hb=>by
   rw [← h.par b hb]; by_cases hm:b∈ids r.set
   · by_cases hd:(L b).isSome=true
     · exact he.kold b hd (fun hr=>by have:=hsh.re b hr; omega)
     · have:=hset b hm hd; omega
   · exact he.kout b hm
  parK:=fun b hb hs=>by
   rcases hcases b hs with ⟨h1,_⟩ | ⟨h1,h2⟩
   · exact h.parK b hb h1
   · by_cases hd:(L b).isSome=true
     · have:=hsh.re b (h1 hd); omega
     · have:=hset b h2 hd; omega
  own:=fun b g c hb hs hk=>by
   rcases hcases b hs with ⟨h1,_,h2⟩ | ⟨h1,h2⟩
   · rw [h2] at hk; exact h.own b g c hb h1 hk
   · rcases he.knew b h1 h2 g c hk with h3 | ⟨b0,c0,h3,h4,h5⟩
     · exact .inl (zdy h.grow h3)
     · exact h.own b0 g c0 (h3.elim (fun q=>(hsh.kill b0 q).2) (hsh.re b0)) h4 h5
  inj:=by
   have one:∀ b b' g c c',((L b).isSome=true→b∈r.re)→b∈ids r.set→(L b').isSome=true→b' ∉ r.re→(applyL r L b').isSome=true→κ' b=some (g,c)→κ b'=some (g,c')→False:=by
    intro b b' g c c' h1 h2 h3 hnr h3' h4 h5; rcases he.knew b h1 h2 g c h4 with h6 | ⟨b0,c0,h6,h7,h8⟩
    · have:=(hblockLt b' g c' h3 h5).1; omega
    · have:b'=b0:=h.inj b' b0 g c' c0 h3 h7 h5 h8; subst this; rcases h6 with h6 | h6
      · rcases (hDiff b').1 h3' with h9 | h9
        · exact h9.2.1 h6
        · exact (hsh.kill b' h6).1 h9
      · exact hnr h6
   intro b b' g c c' hs hs' hk hk'; rcases hcases b hs with ⟨h1,hr1,h2⟩ | ⟨h1,h2⟩
   · rcases hcases b' hs' with ⟨h3,_,h4⟩ | ⟨h3,h4⟩
     · rw [h2] at hk; rw [h4] at hk'; exact h.inj b b' g c c' h1 h3 hk hk'
     · rw [h2] at hk; exact (one b' b g c' c h3 h4 h1 hr1 hs hk' hk).elim
   · rcases hcases b' hs' with ⟨h3,hr3,h4⟩ | ⟨h3,h4⟩
     · rw [h4] at hk'; exact (one b b' g c c' h1 h2 h3 hr3 hs' hk hk').elim
     · exact he.one b b' h1 h3 h2 h4 g c c' hk hk'
  ents:=fun b ent hb=>by
   have hDD:∀ b,D1 (fun b=>(L b).isSome=true) r b→(applyL r L b).isSome=true:=fun b=>(hDiff b).2
   simp only [applyL] at hb
   cases hq:look r.set b with
   | some e=>simp only [hq] at hb; injection hb with hb; subst hb; have hE:=he.ents b e (zih hq); refine hE.mono (fun _ h=>h) (fun _ _=>rfl) hDD (fun _ _=>rfl) (fun g c hk=>⟨rfl,?_⟩); rw [hk] at hE; exact hE.notS
   | none =>
     simp only [hq] at hb; have hnm:b ∉ ids r.set:=fun hm=>by have:=zfp hm; rw [hq] at this; cases this
     have hnre:b ∉ r.re:=fun hm=>hnm (he.res b hm)
     obtain ⟨entR,hb,hentR⟩:=zyl hb hnre
     obtain ⟨e0,hl0,hkn,hfn,hent0⟩:∃ e0,L b=some e0∧r.kill≠some b∧b ∉ r.frz∧entR=(if e0.box then { e0 with es:=e0.es.map fun cs=>cs.map fun a=>killO r.kill (frzO r.frz L a) } else e0):=by
      have hf1:∀ e1,frzLO r.frz L b=some e1→∃ e0,L b=some e0∧b ∉ r.frz∧e1=(if e0.box then { e0 with es:=e0.es.map fun cs=>cs.map fun a=>frzO r.frz L a } else e0):=by
       intro e1 h1; unfold frzLO at h1
       cases hf:r.frz with
       | nil=>simp only [hf] at h1; refine ⟨e1,h1,by simp,?_⟩; have:(fun a=>frzO ([]:List Nat) L a)=id:=rfl; simp [this]
       | cons c cs =>
         simp only [hf,frzL] at h1; split at h1
         · cases h1
         · rename_i hm
           cases hl:L b with
           | none=>simp [hl] at h1
           | some e0=>simp [hl] at h1; exact ⟨e0,rfl,by simpa using hm,h1.symm⟩
      unfold killLO at hb
      cases hk:r.kill with
      | none=>simp only [hk] at hb; obtain ⟨e0,h1,h2,h3⟩:=hf1 entR hb; exact ⟨e0,h1,by simp,h2,h3⟩
      | some c =>
        simp only [hk,killL] at hb; split at hb
        · cases hb
        · rename_i hne
          cases hfl:frzLO r.frz L b with
          | none=>simp [hfl] at hb
          | some e1 =>
            simp [hfl] at hb; obtain ⟨e0,h1,h2,h3⟩:=hf1 e1 hfl; refine ⟨e0,h1,fun e=>hne (by injection e with e; exact e.symm),h2,?_⟩; rw [← hb,h3]; unfold killE; cases hbx:e0.box
            · simp [hbx]
            · simp [killO,aLiAs88]
     have hent:ent=(if e0.box then { e0 with es:=e0.es.map fun cs=>cs.map fun a=>killR r.re (killO r.kill (frzO r.frz L a)) } else e0):=by
      rw [hentR,hent0]; cases hbx:e0.box
      · simp [hbx]
      · simp [aLiAs88]
     subst hent; have hlb:(L b).isSome=true:=by simp [hl0]
     have hE:=h.ents b e0 hl0; rw [he.kold b hlb hnre]
     have hun:∀ g c,κ b=some (g,c)→w'.heap[g]?=w.heap[g]?∧¬ S' g:=by
      intro g c hk; refine ⟨he.blk g (hblockLt b g c hlb hk).1 (fun b' c' hb' hd' hk'=>?_),fun hs=>?_⟩
      · have:b'=b:=h.inj b' b g c' c hd' hlb hk' hk; subst this; rcases hb' with hm | hm
        · exact hnm hm
        · exact hkn hm
      · rcases he.snew g hs with h1 | h1 | ⟨b',c',hb',hd',hk'⟩
        · exact (hblockLt b g c hlb hk).2 h1
        · have:=(hblockLt b g c hlb hk).1; omega
        · have:b'=b:=h.inj b' b g c' c hd' hlb hk' hk; subst this; exact hb'.elim hfn (fun q=>q.elim hkn hnre)
     cases hbx:e0.box with
     | false =>
       simp only [zcn,if_false]; refine ⟨fun hce=>?_,fun hce=>(hE.2 hce).mono (fun g hg=>he.sup g hg) (fun g hg=>hS1w g (.inl hg)) hun⟩; obtain ⟨z1,z2⟩:=hE.1 hce; refine ⟨z1,?_⟩
       cases hkb:κ b with
       | none=>rw [hkb] at z2; exact z2
       | some gc=>obtain ⟨g,c⟩:=gc; rw [hkb] at z2; obtain ⟨cells,q1,q2,q3,q4,q5,q6⟩:=z2; obtain ⟨u1,u2⟩:=hun g c hkb; refine ⟨cells,u1.trans q1,q2,q3,q4,u2,fun i j cs av hi hj=>?_⟩; obtain ⟨u,v1,v2,_,v4⟩:=q6 i j cs av hi hj; exact ⟨u,v1,v2,(fun hb'=>by rw [hbx] at hb'; cases hb'),fun hb'=>(v4 hb').mono (fun g hg=>he.sup g hg) (fun g hg=>hS1w g (.inl hg))⟩
     | true =>
       simp only [if_true]; obtain ⟨z1,z2⟩:=hE.1 (.inl hbx); refine EntAt.of (.inl rfl) ⟨fun cs hcs=>?_,?_⟩
       · simp at hcs; obtain ⟨cs',hcs',rfl⟩:=hcs; simpa using z1 cs' hcs'
       · cases hkb:κ b with
         | none=>rw [hkb] at z2; rw [hbx] at z2; exact absurd z2.2 (by simp)
         | some gc=>obtain ⟨g,c⟩:=gc; rw [hkb] at z2; obtain ⟨cells,q1,q2,q3,q4,q5,q6⟩:=z2; obtain ⟨u1,u2⟩:=hun g c hkb; refine ⟨cells,u1.trans q1,q2,by simpa using q3,by simpa [Ent.cap,hbx] using q4,u2,fun i j cs av hi hj=>?_⟩; simp at hi; obtain ⟨cs',hcs',rfl⟩:=hi; simp at hj; obtain ⟨a',ha',rfl⟩:=hj; obtain ⟨u,v1,v2,v3,_⟩:=q6 i j cs' a' hcs' ha'; exact ⟨u,v1,v2,fun _=>hval a' u (v3 hbx),fun hb'=>by cases hb'⟩
  slots:=fun k=>by
   rw [tmps_put a o.dst y (by rw [h.size]; exact hdst) k]; simp only [applyT]; split
   · exact he.val.mono (fun _ h=>h) (fun _ _=>rfl) (fun b=>(hDiff b).2) (fun _ _=>rfl)
   · exact hval _ _ (h.slots k) }
end
end Go.Ab
end
