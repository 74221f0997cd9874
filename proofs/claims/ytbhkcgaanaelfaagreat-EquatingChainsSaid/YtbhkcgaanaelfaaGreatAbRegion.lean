/- Regions: in the order of the text, and in whatever order is drawn. -/
import Derived.Test.YtbhkcgaanaelfaaGreatAbLocal
namespace Go.Ab
open Go.RowKit
abbrev FS:=(Nat→AV)×(Nat→Option Ent)
def evF (T:Nat→AV):Operand→AV
 | .tmp k=>T k
 | .const x=>.v x
 | .func f=>.fn f []
 | .global _=>.bot
theorem ev_eq (t:Tab):ev t=evF (get t):=by funext x; cases x <;> rfl
def zlR (ops:Array Oper) (o:Oper) (T:Nat→AV):Option Bool:=
 match o.guard with
 | none=>some true
 | some (j,want)=>match (ops[j]?).bind (·.dst) with
   | some d=>match T d with
     | .v (.bool b)=>some (b == want)
     | .v (.tuple _)=>some false
     | _=>none
   | none=>none
theorem wanted_eq (ops:Array Oper) (o:Oper) (t:Tab):zm3 ops o t=zlR ops o (get t):=rfl
def aStepF (P:Program) (C:Cfg) (M:List Nat) (call:za6) (N:Nat) (ops:Array Oper) (o:Oper) (x:FS):Option Res:=
 if dstOk N o.dst then
  match zlR ops o x.1 with
  | some true=>aop P C M call o (evF x.1) x.2
  | some false=>some { val:=.v undef }
  | none=>none
 else none
def appF (o:Oper) (r:Res) (x:FS):FS:=(applyT o.dst r x.1 x.2,applyL r x.2)
def fs (st:St):FS:=(get st.t,look st.m)
theorem aStep_eq {P:Program} {C:Cfg} {M:List Nat} {call:za6} {N:Nat} {ops:Array Oper} {o:Oper} {st st':St} {r:Res} (h:aStep P C M call N ops o st=some (r,st')) :
  aStepF P C M call N ops o (fs st)=some r∧fs st'=appF o r (fs st):=by
 have key:∀ r,fs (applyR o.dst r st)=appF o r (fs st):=fun r=>by
  unfold fs appF
  congr 1
  · funext k; exact get_apply o.dst r st k
  · funext c; exact look_apply o.dst r st c
 unfold aStep at h
 unfold aStepF
 split at h
 case isFalse=>cases h
 rename_i hd
 rw [if_pos hd]
 rw [wanted_eq,ev_eq] at h
 change _=_∧_
 simp only [fs] at *
 split at h
 · rename_i hw
   simp only [hw]
   split at h
   · rename_i r' hr
     simp only [Option.some.injEq,Prod.mk.injEq] at h
     obtain ⟨rfl,rfl⟩:=h
     exact ⟨hr,key _⟩
   · cases h
 · rename_i hw
   simp only [hw]
   simp only [Option.some.injEq,Prod.mk.injEq] at h
   obtain ⟨rfl,rfl⟩:=h
   exact ⟨rfl,key _⟩
 · cases h
section
variable {P:Program} {C:Cfg} {M:List Nat} {call:za6} {N:Nat} {ops:Array Oper} {Q:Exit→Act→World→Prop}
variable {w0:World} {S0:Nat→Prop} {κ0:Kap} {K:Nat→Prop}
def GoodF (w0:World) (S0:Nat→Prop) (κ0:Kap) (K:Nat→Prop) (N:Nat) (x:FS) (a:Act) (w:World):Prop:=∃ S κ,Good w0 S0 κ0 K N S κ x.1 x.2 a w
theorem zrl {S:Nat→Prop} {κ:Kap} {D:Nat→Prop} {w:World} {o:Oper} {T:Nat→AV} {tm:Array Value} {b:Bool} (hT:∀ k,VRel S κ D w (T k) (tm.getD k undef)) (h:zlR ops o T=some b) :
  Region.wanted o (yielded ops tm)=b:=by
 unfold zlR at h
 unfold Region.wanted
 split at h
 · rename_i hg
   simp only [hg]
   injection h
 · rename_i j want hg
   simp only [hg]
   split at h
   case h_2=>cases h
   rename_i d hd
   split at h
   · rename_i bb hb
     have h1:=hT d
     rw [hb] at h1
     have h2:=h1.v_inv
     have h3:tm[d]?=some (.bool bb):=by
      rw [Array.getD_eq_getD_getElem?] at h2
      cases hq:tm[d]? with
      | none=>rw [hq] at h2; cases h2
      | some y=>rw [hq] at h2; simpa using h2
     injection h with h
     simp only [yielded,hd,Option.bind_some,h3]
     rw [← h]
     cases bb <;> cases want <;> rfl
   · rename_i vs hb
     have h1:=hT d
     rw [hb] at h1
     have h2:=h1.v_inv
     injection h with h
     have h3:yielded ops tm j=none:=by
      simp only [yielded,hd,Option.bind_some]
      rw [Array.getD_eq_getD_getElem?] at h2
      cases hq:tm[d]? with
      | none=>rfl
      | some y=>rw [hq] at h2; simp at h2; subst h2; rfl
     rw [h3,← h]
     rfl
   · cases h
theorem zsn (hcall:CallOK P call) (hN:N≤1000) {i:Nat} {o:Oper} (hi:ops[i]?=some o) {x:FS} {r:Res} (h:aStepF P C M call N ops o x=some r) {a:Act} {w:World} (hg:GoodF w0 S0 κ0 K N x a w)
  {Kc:Act→World→Prop} (hK:∀ a' w',GoodF w0 S0 κ0 K N (appF o r x) a' w'→Kc a' w'):wpOp P ops Q i Kc a w:=by
 obtain ⟨S,κ,hg⟩:=hg
 unfold aStepF at h
 split at h
 case isFalse=>cases h
 rename_i hd
 unfold wpOp
 simp only [hi]
 split at h
 · rename_i hw
   rw [if_pos (zrl hg.slots hw)]
   refine .inl (aop_sound (D:=fun b=>(x.2 b).isSome=true) hcall hg.slt (fun _=>Iff.rfl) hg.inj hg.ents ?_ h ?_)
   · intro y hy
     cases y with
     | tmp k=>exact hg.slots k
     | const v=>exact .c (.v _)
     | func f=>exact .c (.fn f [] #[] rfl (by simp))
     | global g=>exact .bot _
   · intro y w' S' κ' he hdis
     exact hK _ _ ⟨S',κ',hg.apply hN hd he hdis (aop_shape h)⟩
 · rename_i hw
   rw [if_neg (by rw [zrl hg.slots hw]; simp)]
   injection h with h
   subst h
   refine hK _ _ ⟨S,κ,hg.apply (y:=undef) hN hd (EffAt.still hg.slt (.c (.v _)) rfl rfl rfl) ?_ (Shape.none rfl rfl rfl)⟩
   intro b hb
   cases hb
 · cases h
theorem zvf (hcall:CallOK P call) (hN:N≤1000):∀ (l:List Oper) (k:Nat) (st st':St) (rs:List Mk),runOps P C M call N ops k l st=some (rs,st')→(∀ j o,l[j]?=some o→ops[k+j]?=some o) →
  ∀ (a:Act) (w:World),GoodF w0 S0 κ0 K N (fs st) a w→(∀ a' w',GoodF w0 S0 κ0 K N (fs st') a' w'→Q .normal a' w')→wpOps P ops Q (List.range' k l.length) a w
 | [],k,st,st',rs,h,_,a,w,hg,hQ=>by
   simp [runOps] at h
   obtain ⟨_,rfl⟩:=h
   exact hQ a w hg
 | o :: l,k,st,st',rs,h,hl,a,w,hg,hQ=>by
   simp only [runOps] at h
   cases hs:aStep P C M call N ops o st with
   | none=>simp [hs] at h
   | some q =>
     obtain ⟨r,st1⟩:=q
     simp only [hs] at h
     cases ho:runOps P C M call N ops (k+1) l st1 with
     | none=>simp [ho] at h
     | some q =>
       obtain ⟨rs',st2⟩:=q
       simp only [ho,Option.some.injEq,Prod.mk.injEq] at h
       obtain ⟨_,rfl⟩:=h
       obtain ⟨e1,e2⟩:=aStep_eq hs
       rw [List.length_cons,List.range'_succ,wpOps_cons]
       refine zsn hcall hN (hl 0 o rfl) e1 hg (fun a' w' hg'=>?_)
       rw [← e2] at hg'
       exact zvf hcall hN l (k+1) st1 st2 rs' ho (fun j o' hj=>by have:=hl (j+1) o' (by simpa using hj); rw [← this]; congr 1; omega) a' w' hg' hQ
theorem GoodF.del {st:St} {a:Act} {w:World} (h:GoodF w0 S0 κ0 K N (fs st) a w) (b:Nat):GoodF w0 S0 κ0 K N (fs (del b st)) a w:=by
 obtain ⟨S,κ,h⟩:=h
 refine ⟨S,κ,?_⟩
 have:=h.del b
 have e1:(fs (Ab.del b st)).1=fun k=>((fs st).1 k).kill b 4:=funext fun k=>zma b st.t k
 have e2:(fs (Ab.del b st)).2=killL b (fs st).2:=funext fun c=>zjr b st.m c
 rw [e1,e2]
 exact this
theorem GoodF.preDel {a:Act} {w:World}:∀ (l:List Oper) (st:St),GoodF w0 S0 κ0 K N (fs st) a w→GoodF w0 S0 κ0 K N (fs (preDel l st)) a w
 | [],st,h=>h
 | o :: l,st,h=>by
   simp only [Ab.preDel]
   refine GoodF.preDel l _ ?_
   split
   · split
     · exact h.del _
     · exact h
   · exact h
def Agree (lk tc:List Nat) (x y:FS):Prop:=(∀ k∈lk,x.1 k=y.1 k)∧∀ b∈tc,x.2 b=y.2 b
theorem zyd {o:Oper} {x y:FS} (h:Agree (Oper.looks ops o) (zjH o (evF x.1) x.2) x y):aStepF P C M call N ops o x=aStepF P C M call N ops o y:=by
 have hw:zlR ops o x.1=zlR ops o y.1:=by
  unfold zlR
  cases hg:o.guard with
  | none=>rfl
  | some p =>
    obtain ⟨j,want⟩:=p
    simp only
    cases hd:(ops[j]?).bind (·.dst) with
    | none=>rfl
    | some d=>simp only; rw [h.1 d (by simp [Oper.looks,hg,hd])]
 have hE:∀ z∈o.op.operands,evF x.1 z=evF y.1 z:=by
  intro z hz
  cases z with
  | tmp k=>exact h.1 k (by
    simp only [Oper.looks,List.mem_append]
    exact .inl (List.mem_filterMap.2 ⟨.tmp k,by simpa using hz,rfl⟩))
  | _=>rfl
 unfold aStepF
 rw [hw,aop_congr hE h.2]
def A (m:Mk) (x:FS):FS:=appF m.o m.res x
def stp (ml:List Mk) (x0:FS) (p:Nat→Bool):Nat→FS
 | 0=>x0
 | m+1=>match ml[m]? with
   | some k=>if p m then A k (stp ml x0 p m) else stp ml x0 p m
   | none=>stp ml x0 p m
theorem zk3 {a b:List Nat} (h:disj a b=true):∀ x∈a,∀ y∈b,x≠y:=by
 intro x hx y hy
 have h1:=List.all_eq_true.1 h x hx
 have h2:=List.all_eq_true.1 h1 y hy
 simpa using h2
theorem zjG {c:Nat}:∀ (k:Nat) (a:AV),a.inert c k=true→a.kill c k=a
 | 0,a,h=>by cases a <;> simp [AV.inert,AV.kill] at h ⊢
 | k+1,a,h=>by
   cases a with
   | loc c' z i o =>
     simp only [AV.inert,bne_iff_ne,ne_eq] at h
     simp [AV.kill,h]
   | row c' z i o =>
     simp only [AV.inert,bne_iff_ne,ne_eq] at h
     simp [AV.kill,h]
   | agg cs =>
     simp only [AV.inert,List.all_eq_true] at h
     simp only [AV.kill,AV.agg.injEq]
     conv=>rhs; rw [← List.map_id cs]
     exact List.map_congr_left fun x hx=>zjG k x (h x hx)
   | tup cs =>
     simp only [AV.inert,List.all_eq_true] at h
     simp only [AV.kill,AV.tup.injEq]
     conv=>rhs; rw [← List.map_id cs]
     exact List.map_congr_left fun x hx=>zjG k x (h x hx)
   | fn f cs =>
     simp only [AV.inert,List.all_eq_true] at h
     simp only [AV.kill,AV.fn.injEq,true_and]
     conv=>rhs; rw [← List.map_id cs]
     exact List.map_congr_left fun x hx=>zjG k x (h x hx)
   | v x=>rfl
   | sl z es=>rfl
   | fp cs=>rfl
   | bot=>rfl
   | map c' =>
     simp only [AV.inert,bne_iff_ne,ne_eq] at h
     simp [AV.kill,h]
   | mp es=>rfl
   | fa z es=>rfl
   | _=>simp [AV.inert] at h
theorem zsq {c:Nat} {e:Ent} (h:e.inert c=true):killE c e=e:=by
 obtain ⟨z,t,es,box⟩:=e
 unfold Ent.inert at h
 unfold killE
 cases box with
 | false=>rfl
 | true =>
   simp only [if_true,List.all_eq_true] at h
   simp only [if_true,Ent.mk.injEq,true_and,and_true]
   conv=>rhs; rw [← List.map_id es]
   refine List.map_congr_left fun cs hcs=>?_
   conv=>rhs; rw [id,← List.map_id cs]
   exact List.map_congr_left fun x hx=>zjG 4 x (h cs hcs x hx)
def Calm (c:Nat) (lk tc:List Nat) (x:FS):Prop:=(∀ k∈lk,(x.1 k).kill c 4=x.1 k)∧∀ q∈tc,killL c x.2 q=x.2 q
theorem Calm.congr {c:Nat} {lk tc:List Nat} {x y:FS} (h:Calm c lk tc x) (ha:Agree lk tc y x):Calm c lk tc y:=
 ⟨fun k hk=>by rw [ha.1 k hk]; exact h.1 k hk,fun q hq=>by
  have:=h.2 q hq
  unfold killL at this ⊢
  rw [ha.2 q hq]
  exact this⟩
structure Ind (ops:Array Oper) (a b:Mk):Prop where
 ba:bar a=false
 bb:bar b=false
 kk:a.res.kill=none∨b.res.kill=none
 d1:∀ d,a.o.dst=some d→d ∉ Oper.looks ops b.o
 d2:∀ d,b.o.dst=some d→d ∉ Oper.looks ops a.o
 d3:∀ d,a.o.dst=some d→b.o.dst≠some d
 s1:∀ c∈ids a.res.set,c ∉ b.touch
 s2:∀ c∈ids b.res.set,c ∉ a.touch
 s3:∀ c∈ids a.res.set,c ∉ ids b.res.set
 v1:∀ c,a.res.kill=some c→b.res.val.kill c 4=b.res.val∧∀ q e,look b.res.set q=some e→q≠c∧killE c e=e
 v2:∀ c,b.res.kill=some c→a.res.val.kill c 4=a.res.val∧∀ q e,look a.res.set q=some e→q≠c∧killE c e=e
 g1:∀ c,a.res.kill=some c→Calm c (Oper.looks ops b.o) b.touch (fs a.pre)
 g2:∀ c,b.res.kill=some c→Calm c (Oper.looks ops a.o) a.touch (fs a.pre)
theorem zvq:∀ {l:List (Nat×Ent)} {q:Nat} {e:Ent},look l q=some e→(q,e)∈l
 | [],q,e,h=>by simp [look] at h
 | (j,e') :: r,q,e,h=>by
   simp only [look] at h
   split at h
   · rename_i hj
     injection h with h
     subst h
     simp_all
   · exact List.mem_cons_of_mem _ (zvq h)
theorem zmT {c:Nat} {m:Mk} {pre:St} (h:quiet ops (some c) m pre=true) :
  (m.res.val.kill c 4=m.res.val∧∀ q e,look m.res.set q=some e→q≠c∧killE c e=e)∧Calm c (Oper.looks ops m.o) m.touch (fs pre):=by
 unfold quiet at h
 simp only [Bool.and_eq_true,List.all_eq_true] at h
 obtain ⟨⟨⟨h1,h2⟩,h3⟩,h4⟩:=h
 refine ⟨⟨zjG 4 _ h1,fun q e hq=>?_⟩,fun k hk=>zjG 4 _ (h4 k hk),fun q hq=>?_⟩
 · have:=h2 (q,e) (zvq hq)
   exact ⟨by simpa using this.1,zsq this.2⟩
 · have:=h3 q hq
   have hne:q≠c:=by simpa using this.1
   have h5:=this.2
   unfold killL
   rw [if_neg hne]
   change (look pre.m q).map (killE c)=look pre.m q
   cases hl:look pre.m q with
   | none=>rfl
   | some e=>rw [hl] at h5; simp only [Option.map_some]; rw [zsq h5]
theorem Ind.of {a b:Mk} (h:indep ops a b=true):Ind ops a b:=by
 unfold indep at h
 simp only [Bool.and_eq_true,Bool.not_eq_true'] at h
 obtain ⟨⟨⟨⟨⟨⟨⟨⟨⟨⟨h1,h2⟩,hk⟩,q1⟩,q2⟩,h3⟩,h4⟩,h5⟩,h6⟩,h7⟩,h8⟩:=h
 refine ⟨h1,h2,?_,fun d hd hm=>zk3 h3 d (by simp [hd]) d hm rfl,fun d hd hm=>zk3 h4 d (by simp [hd]) d hm rfl,fun d hd hm=>zk3 h5 d (by simp [hd]) d (by simp [hm]) rfl,
  fun c hc hm=>zk3 h6 c hc c hm rfl,fun c hc hm=>zk3 h7 c hc c hm rfl,fun c hc hm=>zk3 h8 c hc c hm rfl,fun c hc=>?_,fun c hc=>?_,fun c hc=>?_,fun c hc=>?_⟩
 · rcases Bool.or_eq_true _ _▸hk with h | h
   · exact .inl (by simpa using h)
   · exact .inr (by simpa using h)
 · rw [hc] at q1; exact (zmT q1).1
 · rw [hc] at q2; exact (zmT q2).1
 · rw [hc] at q1; exact (zmT q1).2
 · rw [hc] at q2; exact (zmT q2).2
theorem bar_false {m:Mk} (h:bar m=false):m.res.frz=[]:=by
 unfold bar at h
 cases hq:m.res.frz <;> simp_all
theorem zlO {m:Mk} (h:bar m=false) (x:FS):A m x=(fun k=>if m.o.dst=some k then m.res.val else killO m.res.kill (x.1 k),fun c=>match look m.res.set c with | some e=>some e | none=>killLO m.res.kill x.2 c):=by
 have h2:=bar_false h
 unfold A appF
 congr 1
 · funext k
   simp only [applyT,h2,frzO]
 · funext c
   simp only [applyL,h2,frzLO]
   rfl
theorem zmi {l:List (Nat×Ent)} {c:Nat} (h:c ∉ ids l):look l c=none:=by
 cases hq:look l c with
 | none=>rfl
 | some e=>exact absurd (zsX.1 (by simp [hq])) h
theorem A_comm0 {a b:Mk} (ha:bar a=false) (hb:bar b=false) (hk:a.res.kill=none) (d3:∀ d,a.o.dst=some d→b.o.dst≠some d) (s3:∀ c∈ids a.res.set,c ∉ ids b.res.set)
  (v2:∀ c,b.res.kill=some c→a.res.val.kill c 4=a.res.val∧∀ q e,look a.res.set q=some e→q≠c∧killE c e=e) (x:FS):A a (A b x)=A b (A a x):=by
 rw [zlO ha (A b x),zlO hb x,zlO hb (A a x),zlO ha x]
 simp only [hk,killO,killLO]
 congr 1
 · funext k
   by_cases h1:a.o.dst=some k
   · have h2:¬ b.o.dst=some k:=d3 k h1
     simp only [h1,h2,if_true,if_false]
     cases hq:b.res.kill with
     | none=>rfl
     | some c=>exact ((v2 c hq).1).symm
   · simp only [h1,if_false]
 · funext c
   by_cases h1:c∈ids a.res.set
   · have h2:look b.res.set c=none:=zmi (s3 c h1)
     obtain ⟨e,he⟩:=Option.isSome_iff_exists.1 (zsX.2 h1)
     simp only [he,h2]
     cases hq:b.res.kill with
     | none=>simp only [he]
     | some c' =>
       obtain ⟨q1,q2⟩:=(v2 c' hq).2 c e he
       simp only [killL,he,if_neg q1,Option.map_some,q2]
   · simp only [zmi h1]
     cases look b.res.set c with
     | some e=>rfl
     | none =>
       simp only
       cases hq:b.res.kill with
       | none=>simp only [zmi h1]
       | some c'=>simp only [killL,zmi h1]
theorem A_comm {a b:Mk} (h:Ind ops a b) (x:FS):A a (A b x)=A b (A a x):=by
 rcases h.kk with hk | hk
 · exact A_comm0 h.ba h.bb hk h.d3 h.s3 h.v2 x
 · exact (A_comm0 h.bb h.ba hk (fun d hd hm=>h.d3 d hm hd) (fun c hc hm=>h.s3 c hm hc) h.v1 x).symm
theorem A_agree {m:Mk} {lk tc:List Nat} (hb:bar m=false) (h1:∀ d,m.o.dst=some d→d ∉ lk) (h2:∀ c∈ids m.res.set,c ∉ tc) (x:FS) (hk:∀ c,m.res.kill=some c→Calm c lk tc x):Agree lk tc (A m x) x:=by
 rw [zlO hb]
 refine ⟨fun k hkm=>?_,fun c hc=>?_⟩
 · have:¬ m.o.dst=some k:=fun e=>h1 k e hkm
   simp only [this,if_false]
   cases hq:m.res.kill with
   | none=>rfl
   | some c=>exact (hk c hq).1 k hkm
 · have:look m.res.set c=none:=zmi (fun hm=>h2 c hm hc)
   simp only [this]
   cases hq:m.res.kill with
   | none=>rfl
   | some c'=>exact (hk c' hq).2 c hc
theorem A_agree2 {m:Mk} {lk tc:List Nat} (hb:bar m=false) {x y:FS} (h:Agree lk tc x y):Agree lk tc (A m x) (A m y):=by
 rw [zlO hb,zlO hb]
 refine ⟨fun k hk=>?_,fun c hc=>?_⟩
 · simp only; rw [h.1 k hk]
 · simp only
   cases look m.res.set c with
   | some e=>rfl
   | none =>
     simp only
     cases m.res.kill with
     | none=>exact h.2 c hc
     | some c'=>simp only [killLO,killL]; rw [h.2 c hc]
theorem Agree.trans {lk tc:List Nat} {x y z:FS} (h:Agree lk tc x y) (h':Agree lk tc y z):Agree lk tc x z:=⟨fun k hk=>(h.1 k hk).trans (h'.1 k hk),fun c hc=>(h.2 c hc).trans (h'.2 c hc)⟩
theorem Agree.symm {lk tc:List Nat} {x y:FS} (h:Agree lk tc x y):Agree lk tc y x:=⟨fun k hk=>(h.1 k hk).symm,fun c hc=>(h.2 c hc).symm⟩
theorem Agree.refl {lk tc:List Nat} (x:FS):Agree lk tc x x:=⟨fun _ _=>rfl,fun _ _=>rfl⟩
theorem zuj:∀ (l:List Oper) (i:Nat) (st st':St) (ml:List Mk),runOps P C M call N ops i l st=some (ml,st') →
  ml.length=l.length∧(∀ m k,ml[m]?=some k→k.i=i+m∧l[m]?=some k.o∧fs k.pre=stp ml (fs st) (fun _=>true) m∧aStepF P C M call N ops k.o (stp ml (fs st) (fun _=>true) m)=some k.res ∧
   k.touch=zjH k.o (evF (stp ml (fs st) (fun _=>true) m).1) (stp ml (fs st) (fun _=>true) m).2) ∧
  fs st'=stp ml (fs st) (fun _=>true) l.length
 | [],i,st,st',ml,h=>by
   simp [runOps] at h
   obtain ⟨rfl,rfl⟩:=h
   exact ⟨rfl,by simp,rfl⟩
 | o :: l,i,st,st',ml,h=>by
   simp only [runOps] at h
   cases hs:aStep P C M call N ops o st with
   | none=>simp [hs] at h
   | some q =>
     obtain ⟨r,st1⟩:=q
     simp only [hs] at h
     cases hm:runOps P C M call N ops (i+1) l st1 with
     | none=>simp [hm] at h
     | some q =>
       obtain ⟨ml1,st2⟩:=q
       simp only [hm,Option.some.injEq,Prod.mk.injEq] at h
       obtain ⟨rfl,rfl⟩:=h
       obtain ⟨e1,e2⟩:=aStep_eq hs
       obtain ⟨i1,i2,i3⟩:=zuj l (i+1) st1 st2 ml1 hm
       have hstp:∀ m,stp ({ i:=i,o:=o,res:=r,touch:=zjH o (ev st.t) (look st.m),pre:=st } :: ml1) (fs st) (fun _=>true) (m+1)=stp ml1 (fs st1) (fun _=>true) m:=by
        intro m
        induction m with
        | zero=>simp [stp,A,e2]
        | succ m ih =>
          rw [stp]
          simp only [List.getElem?_cons_succ]
          rw [ih]
          rfl
       refine ⟨by simp [i1],fun m k hk=>?_,?_⟩
       · cases m with
         | zero =>
           simp at hk
           subst hk
           exact ⟨rfl,rfl,rfl,e1,by rw [ev_eq]; rfl⟩
         | succ m =>
           rw [hstp m]
           obtain ⟨q1,q2,q5,q3,q4⟩:=i2 m k (by simpa using hk)
           exact ⟨by omega,by simpa using q2,q5,q3,q4⟩
       · rw [List.length_cons,hstp,i3]
theorem zsm:∀ (ml:List Mk),drawOk ops ml=true→∀ (i j:Nat) (a b:Mk),i < j→ml[i]?=some a→ml[j]?=some b→(preds ops b.i b.i).contains a.i=true∨indep ops a b=true
 | [],_,i,j,a,b,_,h,_=>by simp at h
 | m :: ml,h,i,j,a,b,hij,ha,hb=>by
   simp only [drawOk,Bool.and_eq_true] at h
   cases j with
   | zero=>omega
   | succ j =>
     cases i with
     | zero =>
       simp at ha
       subst ha
       have:=List.all_eq_true.1 h.1 b (List.mem_of_getElem? (by simpa using hb))
       simpa using this
     | succ i=>exact zsm ml h.2 i j a b (by omega) (by simpa using ha) (by simpa using hb)
theorem zri:∀ (l:List Oper) (i:Nat),zkW i l=true→∀ j o,l[j]?=some o→∀ e∈o.after,Region.binds .any e=true→e.on < i+j
 | [],_,_,j,o,h,_,_,_=>by simp at h
 | q :: l,i,h,j,o,hj,e,he,hb=>by
   simp only [zkW,Bool.and_eq_true] at h
   cases j with
   | zero =>
     simp at hj
     subst hj
     have:=List.all_eq_true.1 h.1 e (by simpa using he)
     simp [hb] at this
     omega
   | succ j =>
     have:=zri l (i+1) h.2 j o (by simpa using hj) e he hb
     omega
def DC (ops:Array Oper) (p:Nat→Bool):Prop:=∀ j o,ops[j]?=some o→p j=true→∀ e∈o.after,Region.binds .any e=true→p e.on=true
theorem preds_in {p:Nat→Bool} (hdc:DC ops p):∀ (k i:Nat),(∀ o,ops[i]?=some o→∀ e∈o.after,Region.binds .any e=true→p e.on=true)→∀ j∈preds ops k i,p j=true:=by
 intro k
 induction k with
 | zero=>intro i _ j hj; simp [preds] at hj
 | succ k ih =>
   intro i h j hj
   simp only [preds] at hj
   cases ho:ops[i]? with
   | none=>simp [ho] at hj
   | some o =>
     simp only [ho] at hj
     obtain ⟨e,he,hj⟩:=List.mem_flatMap.1 hj
     split at hj
     · rename_i hb
       have hon:=h o ho e (by simpa using he) hb
       rcases List.mem_cons.1 hj with rfl | hj
       · exact hon
       · exact ih e.on (fun o' ho' e' he' hb'=>hdc e.on o' ho' hon e' he' hb') j hj
     · cases hj
theorem stp_all {ml:List Mk} {x0:FS} {p:Nat→Bool}:∀ (m:Nat),(∀ j,j < m→p j=true)→stp ml x0 p m=stp ml x0 (fun _=>true) m
 | 0,_=>rfl
 | m+1,h=>by
   simp only [stp]
   rw [stp_all m (fun j hj=>h j (by omega)),h m (by omega)]
   cases ml[m]? <;> simp
theorem stp_agree {ml:List Mk} {x0:FS} {p:Nat→Bool} {i:Nat} {ki:Mk} (hi:ml[i]?=some ki) (hpi:p i=false)
  (hfs:∀ m k,ml[m]?=some k→fs k.pre=stp ml x0 (fun _=>true) m)
  (hind:∀ (i j:Nat) (a b:Mk),i < j→ml[i]?=some a→ml[j]?=some b→(preds ops j j).contains i=true∨Ind ops a b)
  (hdc:∀ j,p j=true→∀ q∈preds ops j j,p q=true) (hpre:∀ q∈preds ops i i,p q=true) (n:Nat) (hin:i≤n) :
  Agree (Oper.looks ops ki.o) ki.touch (stp ml x0 p n) (stp ml x0 (fun _=>true) i):=by
 have before:∀ m,m≤i→Agree (Oper.looks ops ki.o) ki.touch (stp ml x0 p m) (stp ml x0 (fun _=>true) m):=by
  intro m
  induction m with
  | zero=>intro _; exact Agree.refl _
  | succ m ih =>
    intro hm
    have ih:=ih (by omega)
    simp only [stp]
    cases hq:ml[m]? with
    | none=>exact ih
    | some k =>
      simp only [if_true]
      cases hp:p m with
      | true =>
        simp only [if_true]
        cases hb:bar k with
        | false=>exact A_agree2 hb ih
        | true =>
          have:stp ml x0 p m=stp ml x0 (fun _=>true) m:=stp_all m (fun j hj=>by
           cases hqj:ml[j]? with
           | none =>
             have h1:ml.length≤j:=by simpa using hqj
             have h2:=(List.getElem?_eq_some_iff.1 hq).1
             omega
           | some kj =>
             rcases hind j m kj k hj hqj hq with h | h
             · exact hdc m hp j (by simpa using h)
             · rw [h.bb] at hb; cases hb)
          rw [this]
          exact Agree.refl _
      | false =>
        simp only [Bool.false_eq_true,if_false]
        rcases hind m i k ki (by omega) hq hi with h | h
        · have:=hpre m (by simpa using h)
          rw [hp] at this; cases this
        · exact ih.trans (A_agree h.ba h.d1 h.s1 _ (fun c hc=>by rw [← hfs m k hq]; exact h.g1 c hc)).symm
 have after:∀ m,i≤m→Agree (Oper.looks ops ki.o) ki.touch (stp ml x0 p m) (stp ml x0 p i):=by
  intro m
  induction m with
  | zero =>
    intro hm
    have:i=0:=by omega
    subst this
    exact Agree.refl _
  | succ m ih =>
    intro hm
    by_cases he:i=m+1
    · subst he; exact Agree.refl _
    · have ih:=ih (by omega)
      simp only [stp]
      cases hq:ml[m]? with
      | none=>exact ih
      | some k =>
        simp only
        cases hp:p m with
        | false=>exact ih
        | true =>
          simp only [if_true]
          have hlt:i < m:=by
           rcases Nat.lt_or_ge i m with h | h
           · exact h
           · obtain rfl:i=m:=by omega
             rw [hpi] at hp; cases hp
          rcases hind i m ki k hlt hi hq with h | h
          · have:=hdc m hp i (by simpa using h)
            rw [hpi] at this; cases this
          · exact (A_agree h.bb h.d2 h.s2 _ (fun c hc=>(h.g2 c hc).congr (by rw [hfs i ki hi]; exact ih.trans (before i (Nat.le_refl _))))).trans ih
 exact (after n hin).trans (before i (Nat.le_refl _))
theorem stp_put {ml:List Mk} {x0:FS} {p p':Nat→Bool} {i:Nat} {ki:Mk} (hi:ml[i]?=some ki) (hpi:p i=false) (hp':∀ j,p' j=if j=i then true else p j)
  (hind:∀ (i j:Nat) (a b:Mk),i < j→ml[i]?=some a→ml[j]?=some b→(preds ops j j).contains i=true∨Ind ops a b)
  (hdc:∀ j,p j=true→∀ q∈preds ops j j,p q=true) (n:Nat) (hin:i < n):A ki (stp ml x0 p n)=stp ml x0 p' n:=by
 have before:∀ m,m≤i→stp ml x0 p m=stp ml x0 p' m:=by
  intro m
  induction m with
  | zero=>intro _; rfl
  | succ m ih =>
    intro hm
    simp only [stp]
    rw [ih (by omega),hp' m,if_neg (by omega)]
 have after:∀ m,i < m→A ki (stp ml x0 p m)=stp ml x0 p' m:=by
  intro m
  induction m with
  | zero=>intro h; omega
  | succ m ih =>
    intro hm
    by_cases he:i=m
    · subst he
      simp only [stp,hi,hpi,hp' i,if_true,Bool.false_eq_true,if_false]
      rw [before i (Nat.le_refl _)]
    · have ih:=ih (by omega)
      simp only [stp]
      cases hq:ml[m]? with
      | none=>exact ih
      | some k =>
        simp only
        have hpm:p' m=p m:=by rw [hp' m,if_neg (fun e=>he e.symm)]
        rw [hpm]
        cases hp:p m with
        | false=>simpa using ih
        | true =>
          simp only [if_true]
          rcases hind i m ki k (by omega) hi hq with h | h
          · have:=hdc m hp i (by simpa using h)
            rw [hpi] at this; cases this
          · rw [A_comm h,ih]
 exact after n hin
end
end Go.Ab
