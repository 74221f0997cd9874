/- An operation looks at its operands and at the blocks that they refer to, at nothing else. -/
import Derived.Test.YtlecnobdfhlmnaaGreatAb4
set_option linter.unusedSimpArgs false
set_option linter.unusedVariables false
set_option linter.unusedSectionVars false
noncomputable section
namespace Go.Ab
open Go.RowKit
theorem znk{α β:Type}{f g:α->List β}:∀{l:List α},(∀a∈l,f a=g a)->l.flatMap f=l.flatMap g
 |[],_=>rfl
 |a::l,h=>by simp only[zhn];rw[h a (by simp),znk (λb hb=>h b (by simp[hb]))]
theorem zrx{α β:Type}{f g:α->Option β}:∀{l:List α},(∀a∈l,f a=g a)->mapO f l=mapO g l
 |[],_=>rfl
 |a::l,h=>by simp only[mapO];rw[h a (by simp),zrx (λb hb=>h b (by simp[hb]))]
section
variable{L L':Nat->Option Ent}
theorem zAU:∀(k:Nat) (a:AV),(∀b∈a.ids L k,L b=L' b)->a.ids L k=a.ids L' k:=by
 intro k
 induction k with
 |zero=>intro a _;rfl
 |succ k ih =>
   intro a h
   cases a with
   |agg cs=>exact znk λc hc=>ih c λb hb=>h b (by simp only[AV.ids];grind)
   |tup cs=>exact znk λc hc=>ih c λb hb=>h b (by simp only[AV.ids];grind)
   |fn f cs=>exact znk λc hc=>ih c λb hb=>h b (by simp only[AV.ids];grind)
   |loc c z i o =>
     have hc:=h c (by simp[AV.ids]);simp only[AV.ids]at h ⊢;rw[<-hc]
     cases hl:L c with
     |none=>rfl
     |some ent =>
       simp only[hl]at h ⊢;split
       · rename_i hb;rw[if_pos hb]at h
         cases hi:ent.es[i]? with
         |none=>rfl
         |some cs=>simp only[hi]at h ⊢;congr 1;exact znk λav hav=>ih av λb hb=>h b (zc7 _ (zb2.2 ⟨av,hav,hb⟩))
       ·rfl
   |_=>rfl
theorem ids_mono:∀(k:Nat) (a:AV),∀b∈a.ids L k,b∈a.ids L (k+1):=by
 intro k
 induction k with
 |zero=>intro a b hb;simp[AV.ids]at hb
 |succ k ih =>
   intro a b hb
   cases a with
   |agg cs=>obtain⟨c,hc,hb⟩:=zb2.1 hb;exact zb2.2 ⟨c,hc,ih c b hb⟩
   |tup cs=>obtain⟨c,hc,hb⟩:=zb2.1 hb;exact zb2.2 ⟨c,hc,ih c b hb⟩
   |fn f cs=>obtain⟨c,hc,hb⟩:=zb2.1 hb;exact zb2.2 ⟨c,hc,ih c b hb⟩
   |row c z o n=>simpa[AV.ids]using hb
   |map c=>simpa[AV.ids]using hb
   |loc c z i o =>
     simp only[AV.ids,za4]at hb ⊢;rcases hb with hb|hb
     ·exact .inl hb
     · refine .inr ?_
       cases hl:L c with
       |none=>simp[hl]at hb
       |some ent =>
         simp only[hl]at hb ⊢;split at hb
         · rename_i hbx;rw[if_pos hbx]
           cases hi:ent.es[i]? with
           |none=>simp[hi]at hb
           |some cs=>simp only[hi]at hb ⊢;obtain⟨av,hav,hb⟩:=zb2.1 hb;exact zb2.2 ⟨av,hav,ih av b hb⟩
         ·cases hb
   |_=>simp[AV.ids]at hb
theorem zyP:∀(k:Nat) (a:AV),(∀b∈a.ids L k,L b=L' b)->snap L k a=snap L' k a:=by
 intro k
 induction k with
 |zero=>intro a _;rfl
 |succ k ih =>
   intro a h
   cases a with
   |agg cs=>simp only[snap];rw[zrx λc hc=>ih c (λb hb=>h b (by simp only[AV.ids];grind))]
   |tup cs=>simp only[snap];rw[zrx λc hc=>ih c (λb hb=>h b (by simp only[AV.ids];grind))]
   |fn f cs=>simp only[snap];rw[zrx λc hc=>ih c (λb hb=>h b (by simp only[AV.ids];grind))]
   |row b z off n=>simp only[snap];rw[h b (by simp[AV.ids])]
   |map b=>simp only[snap];rw[h b (by simp[AV.ids])]
   |loc b z i o =>
     have hb:=h b (by simp[AV.ids]);simp only[snap];rw[<-hb]
     cases hl:L b with
     |none=>rfl
     |some ent =>
       simp only;split
       · cases hi:ent.es[i]? with
         |none=>rfl
         |some cs =>
           simp only
           cases hbx:ent.box with
           |true =>
             simp only[if_true];rw[zrx λav hav=>?_];refine ih av (λc hc=>h c ?_);simp only[AV.ids,hl,hbx,if_true,hi]
             grind
           |false=>rfl
       ·rfl
   |_=>rfl
theorem zxw{wr:List Nat}:∀(args:List AV) (k:Nat),(∀a∈args,∀b∈a.ids L 5,L b=L' b)->zeX L wr k args=zeX L' wr k args
 |[],_,_=>rfl
 |a::r,k,h=>by
   simp only[zeX];rw[zxw r (k+1) (λc hc=>h c (by simp[hc]))];have ha:=h a (by simp);rw[zyP 5 a ha,zAU 5 a ha]
   cases zeX L' wr (k+1) r with
   |none=>rfl
   |some q =>
     obtain⟨as,ms,bk,fz⟩:=q;simp only;split
     · cases a with
       |loc b z i o =>
         have hb:=ha b (by simp[AV.ids])
         grind
       |row b z off n=>simp only;rw[ha b (by simp[AV.ids])]
       |map b=>simp only;rw[ha b (by simp[AV.ids])]
       |_=>rfl
     · split
       · cases a with
         |row b z off n =>
           have hb:=ha b (by simp[AV.ids])
           grind
         |_=>rfl
       ·rfl
theorem zCd{C:Cfg}{call:zcv}{d:Option Nat}{f:FuncId}{args:List AV}(h:∀a∈args,∀b∈a.ids L 5,L b=L' b):aCall C call L d f args=aCall C call L' d f args:=by unfold aCall;rw[zxw args 0 h]
theorem zyz:∀(cs:List AV) (q:Nat),(∀a∈cs,∀b∈a.ids L 4,L b=L' b)->nest L q cs=nest L' q cs
 |[],_,_=>rfl
 |a::r,q,h=>by
   simp only[nest];rw[zyz r q (λc hc=>h c (by simp[hc])),zyz r (q+1) (λc hc=>h c (by simp[hc]))];have ha:=h a (by simp);split
   ·rfl
   · cases a with
     |row b z off n =>
       cases off with
       |zero=>simp only;rw[ha b (by simp[AV.ids])]
       |succ o=>rfl
     |map b=>simp only;rw[ha b (by simp[AV.ids])]
     |_=>rfl
theorem zCn{k0:Nat}{x0:AV}:∀(args:List AV) (k:Nat),(∀a∈args,∀b∈a.ids L 5,L b=L' b)->dArgs L k0 x0 k args=dArgs L' k0 x0 k args
 |[],_,_=>rfl
 |a::r,k,h=>by simp only[dArgs];rw[zCn r (k+1) (λc hc=>h c (by simp[hc]))];have ha:=h a (by simp);rw[zyP 5 a ha,zAU 5 a ha]
theorem zJy{call:zcv}{f:FuncId}{k0:Nat}{args:List AV}(h:∀a∈args,∀b∈a.ids L 5,L b=L' b):aDeep call L f k0 args=aDeep call L' f k0 args:=by
 unfold aDeep
 cases hk:args[k0]? with
 |none=>simp only
 |some a =>
   have ha:=h a (zaq hk)
   cases a with
   |loc b z i o =>
     cases i with
     |succ i=>simp only
     |zero=>cases o with
       |succ o=>simp only
       |zero =>
         simp only;have hb:=ha b (by simp[AV.ids]);rw[<-hb]
         cases hl:L b with
         |none=>simp only
         |some ent =>
           simp only;by_cases hbx:ent.box=true
           · rw[if_pos hbx,if_pos hbx]
             cases hes:ent.es with
             |nil=>simp only
             |cons cs r=>cases r with
               |cons _ _=>simp only
               |nil =>
                 simp only
                 have hn:nest L 900 cs=nest L' 900 cs:=zyz cs 900 (λc hc q hq=>ha q (by
                  simp only[AV.ids,hl,hbx,if_true,hes,zbR,zgT]
                  exact zc7 _ (zb2.2 ⟨c,hc,hq⟩)))
                 rw[hn,zCn args 0 h]
           simp_all
   |_=>simp only
theorem zG7{z:Nat}{a:AV}(h:∀b∈a.ids L 5,L b=L' b):srcOf L z a=srcOf L' z a:=by
 cases a with
 |row b z' off n=>simp only[srcOf];rw[h b (by simp[AV.ids])]
 |v x=>cases x with
   |slice A l c=>cases A<;>cases l<;>cases c<;>rfl
   |_=>rfl
 |_=>rfl
theorem zGP{a:AV}(h:∀b∈a.ids L 5,L b=L' b):mesOf L a=mesOf L' a:=by
 cases a with
 |map b=>simp only[mesOf];rw[h b (by simp[AV.ids])]
 |v x=>cases x with
   |map r=>cases r<;>rfl
   |_=>rfl
 |_=>rfl
theorem zCg{P:Program}{t:TypeId}{m k x:AV}(hm:∀b∈m.ids L 5,L b=L' b)(hx:∀b∈x.ids L 5,L b=L' b):aMSet P L t m k x=aMSet P L' t m k x:=by
 unfold aMSet;have e1:∀et,snap L 5 (nrm P et x)=snap L' 5 (nrm P et x):=λet=>zyP 5 _ (λb hb=>hx b (by rw[nrm_ids]at hb;exact hb))
 have e2:x.ids L 5=x.ids L' 5:=zAU 5 x hx
 cases m with
 |map b=>simp only[e1,e2];rw[hm b (by simp[AV.ids])]
 |_=>rfl
theorem aop_congr{P:Program}{C:Cfg}{M:List Nat}{call:zcv}{o:Oper}{E E':Operand->AV}(hE:∀x∈o.op.operands,E x=E' x)(hL:∀b∈zo8 o E L,L b=L' b):aop P C M call o E L=aop P C M call o E' L':=by
 have hd:∀d,o.dst=some d->L d=L' d:=λd h=>hL d (by simp[zo8,h])
 have hx6:stills o.op=false->∀x∈o.op.operands,∀b∈(E x).ids L 6,L b=L' b:=λhs x hx b hb=>hL b (by
  simp only[zo8,zbh,hs,zbt,if_false]
  grind)
 have hx:stills o.op=false->∀x∈o.op.operands,∀b∈(E x).ids L 5,L b=L' b:=λhs x hx b hb=>hx6 hs x hx b (ids_mono 5 _ b hb)
 have hpure:(∀cs b,o.op≠.select cs b)->aPure P o E=aPure P o E':=by
  intro hs;unfold aPure
  have h1:o.op.operands.toList.all (λx=>(E x).toVal.isSome)=o.op.operands.toList.all (λx=>(E' x).toVal.isSome):=by rw[zdB,zbH,zbH];exact⟨λh x hx=>by simp_all,λh x hx=>by simp_all⟩
  rw[h1,execOp_congr o hs (λx hx=>by rw[hE x hx])]
 have hparts:∀ps:Array (Nat×Operand),(∀p∈ps,p.2∈o.op.operands)->(ps.toList.map λp=>(p.1,E p.2))=(ps.toList.map λp=>(p.1,E' p.2)):=λps hp=>zds λp hm=>by grind
 have hpartsN:∀(t:TypeId) (ps:Array (Nat×Operand)),(∀p∈ps,p.2∈o.op.operands)->(ps.toList.map λp=>(p.1,nrmP P t (E p.2)))=(ps.toList.map λp=>(p.1,nrmP P t (E' p.2))):=λt ps hp=>zds λp hm=>by grind
 have hopt:∀q:Option Operand,(∀y,q=some y->y∈o.op.operands)->q.map E=q.map E':=λq hq=>by
  cases q with
  |none=>rfl
  |some y=>simp_all
 have hlist:∀l:List Operand,(∀x∈l,x∈o.op.operands)->l.map E=l.map E':=λl hl=>zds λx hm=>hE x (hl x hm)
 unfold aop
 cases ho:o.op with
 |move x=>simp only;rw[hE x (by simp[ho,Op.operands])]
 |assign x=>simp only;rw[hE x (by simp[ho,Op.operands])]
 |pick c a b=>simp only;rw[hE c (by simp[ho,Op.operands]),hE a (by simp[ho,Op.operands]),hE b (by simp[ho,Op.operands])]
 |alloc t=>grind
 |box t x =>
   simp only;rw[hE x (by simp[ho,Op.operands])]
   grind
 |build t ps=>simp only;rw[hparts ps (λp hp=>by simp[ho,Op.operands];grind)]
 |buildSlice t len ps =>
   simp only;rw[hpartsN t ps (λp hp=>by simp[ho,Op.operands];grind)]
   grind
 |load t a =>
   simp only;rw[<-hE a (by simp[ho,Op.operands])];have h:=hx (by rw[ho];rfl) a (by simp[ho,Op.operands])
   cases hq:E a with
   |loc b z i oo=>rw[hq]at h;simp only[aLoad];rw[h b (by simp[AV.ids])]
   |_=>rfl
 |store t a x =>
   simp only;rw[<-hE a (by simp[ho,Op.operands]),<-hE x (by simp[ho,Op.operands])];have h:=hx (by rw[ho];rfl) a (by simp[ho,Op.operands])
   cases hq:E a with
   |loc b z i oo =>
     rw[hq]at h;have hb:=h b (by simp[AV.ids]);have hn:nrmS P L t (.loc b z i oo) (E x)=nrmS P L' t (.loc b z i oo) (E x):=by simp only[nrmS];rw[hb]
     rw[hn];generalize nrmS P L' t (.loc b z i oo) (E x)=q;simp only[aStore];rw[hb]
   |_=>rfl
 |nilCheck x=>simp only;rw[hE x (by simp[ho,Op.operands])]
 |extract x i=>simp only;rw[hE x (by simp[ho,Op.operands])]
 |fieldAddr s x f=>simp only;rw[hE x (by simp[ho,Op.operands])]
 |field s x f=>simp only;rw[hE x (by simp[ho,Op.operands])]
 |indexAddr t x ix=>simp only;rw[hE x (by simp[ho,Op.operands]),hE ix (by simp[ho,Op.operands])]
 |index t x ix=>simp only;rw[hE x (by simp[ho,Op.operands]),hE ix (by simp[ho,Op.operands]),hpure (by simp[ho])]
 |slice t x lo hi mx =>
   cases mx with
   |none=>simp only;rw[hE x (by simp[ho,Op.operands]),hpure (by simp[ho]),hopt lo (λy hy=>by simp[ho,Op.operands,hy]),hopt hi (λy hy=>by simp[ho,Op.operands,hy])]
   |some m=>simp_all
 |makeFunc fn first cap =>
   cases fn with
   |func f=>simp only;rw[hlist cap.toList (λx hm=>by simp[ho,Op.operands];simp_all)]
   |_=>simp only;exact hpure (by simp[ho])
 |makeSlice t l c =>
   simp only;rw[hE l (by simp[ho,Op.operands]),hE c (by simp[ho,Op.operands])]
   grind
 |call c =>
   obtain⟨callee,args,argTypes⟩:=c
   cases callee with
   |value g =>
     simp only;rw[<-hE g (by simp[ho,Op.operands,Call.operands]),<-hpure (by simp[ho])];have hargs:=hlist args.toList (λx hm=>by simp[ho,Op.operands,Call.operands];simp_all);rw[<-hargs];have hg:=hx6 (by rw[ho];rfl) g (by simp[ho,Op.operands,Call.operands])
     cases hq:E g with
     |fn f cap =>
       simp only
       have hcall:∀a∈nrmA P (rawT C f argTypes) (args.toList.map E)++cap,∀b∈a.ids L 5,L b=L' b:=by
        intro a ha b hb;rcases zbh.1 ha with ha|ha
        · obtain⟨j,hj⟩:=zcG.1 ha;obtain⟨a0,ha0,hc⟩:=zyB P _ _ j a hj
          have hb0:b∈a0.ids L 5:=by
           rcases hc with rfl|⟨t,rfl⟩
           ·exact hb
           ·rw[nrm_ids]at hb;exact hb
          obtain⟨x,hxm,rfl⟩:=zbs.1 (zaq ha0);replace hb:=hb0;exact hx (by rw[ho];rfl) x (by simp[ho,Op.operands,Call.operands];simp_all) b hb
        ·rw[hq]at hg;exact hg b (by simp only[AV.ids];exact zb2.2 ⟨a,ha,hb⟩)
       cases hdp:C.dp f with
       |some k0 =>
         simp only;rw[zJy hcall]
         cases hdq:o.dst with
         |none=>rfl
         |some d =>
           have e:dstOut L (some d)=dstOut L' (some d):=by show(L d).isNone=(L' d).isNone;rw[hd d hdq]
           rw[e]
       |none =>
         cases hdq:o.dst with
         |none=>simp only;rw[zCd hcall]
         |some d=>simp only;rw[hd d hdq,zCd hcall]
     |_=>rfl
   |invoke r m=>simp_all
   |builtin bi =>
     cases bi with
     |append =>
       simp only
       cases hdq:o.dst with
       |none=>rfl
       |some d =>
         cases ha:args.toList with
         |nil=>rfl
         |cons s l=>cases l with
           |nil=>rfl
           |cons x l=>cases l with
             |cons _ _=>rfl
             |nil=>cases ht:argTypes.toList with
               |nil=>rfl
               |cons t l=>cases l with
                 |nil=>rfl
                 |cons t' l=>cases l with
                   |cons _ _=>rfl
                   |nil =>
                     simp only;rw[hd d hdq];have hs:=hE s (by simp[ho,Op.operands,Call.operands];rw[<-zbU,ha];simp);have hxx:=hE x (by simp[ho,Op.operands,Call.operands];rw[<-zbU,ha];simp);have is:=hx (by rw[ho];rfl) s (by simp[ho,Op.operands,Call.operands];rw[<-zbU,ha];simp);have ix:=hx (by rw[ho];rfl) x (by simp[ho,Op.operands,Call.operands];rw[<-zbU,ha];simp);rw[<-hs,<-hxx];have hsrc:∀z,srcOf L z (E x)=srcOf L' z (E x):=λz=>zG7 ix
                     have:znp P L d t (E s) (E x)=znp P L' d t (E s) (E x):=by
                      unfold znp;simp only[hsrc]
                      cases P.underlying t with
                      |none=>rfl
                      |some td =>
                        cases td with
                        |slice e =>
                          simp only
                          cases P.info? e with
                          |none=>rfl
                          |some i =>
                            cases zeroB P e with
                            |none=>rfl
                            |some zero =>
                              simp only;split
                              · cases srcOf L' i.size (E x)with
                                |none=>rfl
                                |some new =>
                                  simp only
                                  cases hq:E s with
                                  |row b z off n=>rw[hq]at is;simp only;rw[is b (by simp[AV.ids])]
                                  |v y=>grind
                                  |_=>rfl
                              ·rfl
                        |_=>rfl
                     rw[this]
     |copy =>
       simp only;split
       · rename_i s x t tr ha ht;have hs:=hE s (by simp[ho,Op.operands,Call.operands];rw[<-zbU,ha];simp);have hxx:=hE x (by simp[ho,Op.operands,Call.operands];rw[<-zbU,ha];simp);have is:=hx (by rw[ho];rfl) s (by simp[ho,Op.operands,Call.operands];rw[<-zbU,ha];simp);have ix:=hx (by rw[ho];rfl) x (by simp[ho,Op.operands,Call.operands];rw[<-zbU,ha];simp);rw[<-hs,<-hxx];unfold aCopy;have hsrc:∀z,srcOf L z (E x)=srcOf L' z (E x):=λz=>zG7 ix
         simp only[hsrc]
         cases hu:P.underlying t with
         |none=>rfl
         |some td =>
           cases td with
           |slice e =>
             simp only
             cases hz:szB P e with
             |none=>rfl
             |some sz =>
               cases hq:E s with
               |row b z off n=>rw[hq]at is;simp only;rw[is b (by simp[AV.ids])]
               |_=>rfl
           |_=>rfl
       ·rfl
     |clear =>
       simp only;split
       · rename_i s t tr ha ht;have hs:=hE s (by simp[ho,Op.operands,Call.operands];rw[<-zbU,ha];simp);have is:=hx (by rw[ho];rfl) s (by simp[ho,Op.operands,Call.operands];rw[<-zbU,ha];simp);rw[<-hs];unfold aClear
         cases hu:P.underlying t with
         |none=>rfl
         |some td =>
           cases td with
           |slice e =>
             simp only
             cases hz:szB P e with
             |none=>rfl
             |some sz =>
               cases hzz:zeroB P e with
               |none=>rfl
               |some zero =>
                 cases hq:E s with
                 |row b z off n=>rw[hq]at is;simp only;rw[is b (by simp[AV.ids])]
                 |_=>rfl
           |_=>rfl
       ·rfl
     |len =>
       simp only;split
       · rename_i s t ha ht;have hs:=hE s (by simp[ho,Op.operands,Call.operands];rw[<-zbU,ha];simp);have is:=hx (by rw[ho];rfl) s (by simp[ho,Op.operands,Call.operands];rw[<-zbU,ha];simp);have hme:aMLen L (E s)=aMLen L' (E s):=by unfold aMLen;rw[zGP is]
         grind
       ·rfl
     |delete =>
       simp only;split
       · rename_i m k t tr ha ht;have hs:=hE m (by simp[ho,Op.operands,Call.operands];rw[<-zbU,ha];simp);have hk:=hE k (by simp[ho,Op.operands,Call.operands];rw[<-zbU,ha];simp);have is:=hx (by rw[ho];rfl) m (by simp[ho,Op.operands,Call.operands];rw[<-zbU,ha];simp);rw[<-hs,<-hk];unfold aMDel
         cases hq:E m with
         |map b=>rw[hq]at is;simp only;rw[is b (by simp[AV.ids])]
         |_=>rfl
       ·rfl
     |_=>simp only;exact hpure (by simp[ho])
 |makeMap t q =>
   cases q with
   |some r=>simp_all
   |none=>grind
 |lookup t m k ok=>simp only;rw[<-hE m (by simp[ho,Op.operands]),<-hE k (by simp[ho,Op.operands])];unfold aMLook;rw[zGP (hx (by rw[ho];rfl) m (by simp[ho,Op.operands]))]
 |mapUpdate t m k x=>simp only;rw[<-hE m (by simp[ho,Op.operands]),<-hE k (by simp[ho,Op.operands]),<-hE x (by simp[ho,Op.operands])];exact zCg (hx (by rw[ho];rfl) m (by simp[ho,Op.operands])) (hx (by rw[ho];rfl) x (by simp[ho,Op.operands]))
 |insert t m k x=>simp only;rw[<-hE m (by simp[ho,Op.operands]),<-hE k (by simp[ho,Op.operands]),<-hE x (by simp[ho,Op.operands])];exact zCg (hx (by rw[ho];rfl) m (by simp[ho,Op.operands])) (hx (by rw[ho];rfl) x (by simp[ho,Op.operands]))
 |binOp op t x y u=>simp only;rw[hE x (by simp[ho,Op.operands]),hE y (by simp[ho,Op.operands]),hpure (by simp[ho])]
 |select cs b=>rfl
 |_=>simp only;exact hpure (by simp[ho])
end
end Go.Ab
namespace Go.Ab
open Go.RowKit
variable[Dr]
abbrev FS:=(Nat->AV)×(Nat->Option Ent)
def evF(T:Nat->AV):Operand->AV
 |.tmp k=>T k
 |.const x=>.v x
 |.func f=>.fn f []
 |.global _=>.bot
theorem ev_eq(t:Tab):ev t=evF (get t):=by funext x;cases x<;>rfl
def zsD(ops:Array Oper)(o:Oper)(T:Nat->AV):Option Bool:=
 match o.guard with
 |none=>some true
 |some (j,want)=>match(ops[j]?).bind (·.dst)with
   |some d=>match T d with
     |.v (.bool b)=>some (b==want)
     |.v (.tuple _)=>some false
     |_=>none
   |none=>none
theorem wanted_eq(ops:Array Oper)(o:Oper)(t:Tab):zuv ops o t=zsD ops o (get t):=rfl
def aStepF(P:Program)(C:Cfg)(M:List Nat)(call:zcv)(N:Nat)(ops:Array Oper)(o:Oper)(x:FS):Option Res:=
 if dstOk N o.dst then
  match zsD ops o x.1 with
  |some true=>aop P C M call o (evF x.1) x.2
  |some false=>some { val:=.v undef }
  |none=>none
 else none
def appF(o:Oper)(r:Res)(x:FS):FS:=(applyT o.dst r x.1 x.2,applyL r x.2)
def fs(st:St):FS:=(get st.t,look st.m)
theorem zCY{P:Program}{C:Cfg}{M:List Nat}{call:zcv}{N:Nat}{ops:Array Oper}{o:Oper}{st st':St}{r:Res}(h:aStep P C M call N ops o st=some (r,st')):aStepF P C M call N ops o (fs st)=some r/\fs st'=appF o r (fs st):=by
 have key:∀r,fs (applyR o.dst r st)=appF o r (fs st):=λr=>by
  unfold fs appF;congr 1
  ·funext k;exact get_apply o.dst r st k
  ·funext c;exact look_apply o.dst r st c
 unfold aStep at h;unfold aStepF;split at h
 case isFalse=>cases h
 rename_i hd;rw[if_pos hd];rw[wanted_eq,ev_eq]at h;change _=_/\_;simp only[fs]at *
 grind
section
variable{P:Program}{C:Cfg}{M:List Nat}{call:zcv}{N:Nat}{ops:Array Oper}{Q:Exit->Act->World->Prop}
variable{w0:World}{S0:Nat->Prop}{κ0:Kap}{K:Nat->Prop}
def GoodF(w0:World)(S0:Nat->Prop)(κ0:Kap)(K:Nat->Prop)(N:Nat)(x:FS)(a:Act)(w:World):Prop:=∃S κ,Good w0 S0 κ0 K N S κ x.1 x.2 a w
theorem zBk{S:Nat->Prop}{κ:Kap}{D:Nat->Prop}{w:World}{o:Oper}{T:Nat->AV}{tm:Array Value}{b:Bool}(hT:∀k,VRel S κ D w (T k) (tm.getD k undef))(h:zsD ops o T=some b):Region.wanted o (yielded ops tm)=b:=by
 unfold zsD at h;unfold Region.wanted;split at h
 ·simp_all
 · rename_i j want hg;simp only[hg];split at h
   case h_2=>cases h
   rename_i d hd;split at h
   · rename_i bb hb;have h1:=hT d;rw[hb]at h1;have h2:=h1.v_inv
     have h3:tm[d]?=some (.bool bb):=by
      rw[zcH]at h2
      cases hq:tm[d]? with
      |none=>rw[hq]at h2;cases h2
      |some y=>simp_all
     injection h with h;simp only[yielded,hd,zae,h3]
     simp_all
   · rename_i vs hb;have h1:=hT d;rw[hb]at h1;have h2:=h1.v_inv;injection h with h
     have h3:yielded ops tm j=none:=by
      simp only[yielded,hd,zae];rw[zcH]at h2
      cases hq:tm[d]? with
      |none=>rfl
      |some y=>simp_all
     grind
   ·cases h
theorem zwK(hcall:CallOK P call)(hN:N<=1000){i:Nat}{o:Oper}(hi:ops[i]?=some o){x:FS}{r:Res}(h:aStepF P C M call N ops o x=some r){a:Act}{w:World}(hg:GoodF w0 S0 κ0 K N x a w)
  {Kc:Act->World->Prop} (hK:∀a' w',GoodF w0 S0 κ0 K N (appF o r x) a' w'->Kc a' w'):wpOp P ops Q i Kc a w:=by
 obtain⟨S,κ,hg⟩:=hg;unfold aStepF at h;split at h
 case isFalse=>cases h
 rename_i hd;unfold wpOp;simp only[hi];split at h
 · rename_i hw;rw[if_pos (zBk hg.slots hw)];refine .inl (aop_sound (D:=λb=>(x.2 b).isSome=true) hcall hg.slt (λ_=>Iff.rfl) hg.inj hg.ents ?_ h ?_)
   · intro y hy
     cases y with
     |tmp k=>exact hg.slots k
     |const v=>exact .c (.v _)
     |func f=>exact .c (.fn f [] #[] rfl (by simp))
     |global g=>exact .bot _
   ·intro y w' S' κ' he hdis;exact hK _ _ ⟨S',κ',hg.apply hN hd he hdis (aop_shape h)⟩
 ·rename_i hw;rw[if_neg (by rw[zBk hg.slots hw];simp)];injection h with h;subst h;refine hK _ _ ⟨S,κ,hg.apply (y:=undef) hN hd (EffAt.still hg.slt (.c (.v _)) rfl rfl rfl rfl) ?_ (Shape.none rfl rfl rfl)⟩;intro b hb;cases hb
 ·cases h
theorem zGW(hcall:CallOK P call)(hN:N<=1000):∀(l:List Oper) (k:Nat) (st st':St) (rs:List Mk),runOps P C M call N ops k l st=some (rs,st')->(∀j o,l[j]?=some o->ops[k+j]?=some o)->∀(a:Act) (w:World),GoodF w0 S0 κ0 K N (fs st) a w->(∀a' w',GoodF w0 S0 κ0 K N (fs st') a' w'->Q .normal a' w')->wpOps P ops Q (List.range' k l.length) a w
 |[],k,st,st',rs,h,_,a,w,hg,hQ=>by simp[runOps]at h;obtain⟨_,rfl⟩:=h;exact hQ a w hg
 |o::l,k,st,st',rs,h,hl,a,w,hg,hQ=>by
   simp only[runOps]at h
   cases hs:aStep P C M call N ops o st with
   |none=>simp[hs]at h
   |some q =>
     obtain⟨r,st1⟩:=q;simp only[hs]at h
     cases ho:runOps P C M call N ops (k+1) l st1 with
     |none=>simp[ho]at h
     |some q=>obtain⟨rs',st2⟩:=q;simp only[ho,zaf,zav]at h;obtain⟨_,rfl⟩:=h;obtain⟨e1,e2⟩:=zCY hs;rw[zcP,List.range'_succ,wpOps_cons];refine zwK hcall hN (hl 0 o rfl) e1 hg (λa' w' hg'=>?_);rw[<-e2]at hg';exact zGW hcall hN l (k+1) st1 st2 rs' ho (λj o' hj=>by have:=hl (j+1) o' (by simpa using hj);grind) a' w' hg' hQ
theorem GoodF.del{st:St}{a:Act}{w:World}(h:GoodF w0 S0 κ0 K N (fs st) a w)(b:Nat):GoodF w0 S0 κ0 K N (fs (del b st)) a w:=by
 obtain⟨S,κ,h⟩:=h;refine⟨S,κ,?_⟩;have:=h.del b;have e1:(fs (Ab.del b st)).1=λk=>((fs st).1 k).kill b 4:=funext λk=>zot b st.t k
 have e2:(fs (Ab.del b st)).2=killL b (fs st).2:=funext λc=>ziq b st.m c
 grind
theorem GoodF.preDel{a:Act}{w:World}:∀(l:List Oper) (st:St),GoodF w0 S0 κ0 K N (fs st) a w->GoodF w0 S0 κ0 K N (fs (preDel l st)) a w
 |[],st,h=>h
 |o::l,st,h=>by
   simp only[Ab.preDel];refine GoodF.preDel l _ ?_;split
   · split
     ·exact h.del _
     ·exact h
   ·exact h
def Agree(lk tc:List Nat)(x y:FS):Prop:=(∀k∈lk,x.1 k=y.1 k)/\∀b∈tc,x.2 b=y.2 b
theorem zKo{o:Oper}{x y:FS}(h:Agree (Oper.looks ops o) (zo8 o (evF x.1) x.2) x y):aStepF P C M call N ops o x=aStepF P C M call N ops o y:=by
 have hw:zsD ops o x.1=zsD ops o y.1:=by
  unfold zsD
  cases hg:o.guard with
  |none=>rfl
  |some p =>
    obtain⟨j,want⟩:=p;simp only
    cases hd:(ops[j]?).bind (·.dst)with
    |none=>rfl
    |some d=>simp only;rw[h.1 d (by simp[Oper.looks,hg,hd])]
 have hE:∀z∈o.op.operands,evF x.1 z=evF y.1 z:=by
  intro z hz
  cases z with
  |tmp k=>exact h.1 k (by
    simp only[Oper.looks,zbh]
    exact .inl (zel.2 ⟨.tmp k,by simpa using hz,rfl⟩))
  |_=>rfl
 unfold aStepF;rw[hw,aop_congr hE h.2]
def A(m:Mk)(x:FS):FS:=appF m.o m.res x
def stp(ml:List Mk)(x0:FS)(p:Nat->Bool):Nat->FS
 |0=>x0
 |m+1=>match ml[m]? with
   |some k=>if p m then A k (stp ml x0 p m)else stp ml x0 p m
   |none=>stp ml x0 p m
theorem zqA{a b:List Nat}(h:disj a b=true):∀x∈a,∀y∈b,x≠y:=by
 intro x hx y hy;have h1:=zbH.1 h x hx
 simp_all
theorem zoZ{c:Nat}:∀(k:Nat) (a:AV),a.inert c k=true->a.kill c k=a
 |0,a,h=>by cases a<;>simp[AV.inert,AV.kill]at h ⊢
 |k+1,a,h=>by
   cases a with
   |loc c' z i o=>simp only[AV.inert,bne_iff_ne,ne_eq]at h;simp[AV.kill,h]
   |row c' z i o=>simp only[AV.inert,bne_iff_ne,ne_eq]at h;simp[AV.kill,h]
   |agg cs =>
     simp only[AV.inert,zbH]at h;simp only[AV.kill,AV.agg.injEq]
     conv=>rhs;rw[<-zhY cs]
     exact zds λx hx=>zoZ k x (h x hx)
   |tup cs =>
     simp only[AV.inert,zbH]at h;simp only[AV.kill,AV.tup.injEq]
     conv=>rhs;rw[<-zhY cs]
     exact zds λx hx=>zoZ k x (h x hx)
   |fn f cs =>
     simp only[AV.inert,zbH]at h;simp only[AV.kill,AV.fn.injEq,true_and]
     conv=>rhs;rw[<-zhY cs]
     exact zds λx hx=>zoZ k x (h x hx)
   |v x=>rfl
   |sl z es=>rfl
   |fp cs=>rfl
   |bot=>rfl
   |map c'=>simp only[AV.inert,bne_iff_ne,ne_eq]at h;simp[AV.kill,h]
   |mp es=>rfl
   |fa z es=>rfl
   |_=>simp[AV.inert]at h
theorem zCu{c:Nat}{e:Ent}(h:e.inert c=true):killE c e=e:=by
 obtain⟨z,t,es,box⟩:=e;unfold Ent.inert at h;unfold killE
 cases box with
 |false=>rfl
 |true =>
   simp only[if_true,zbH]at h;simp only[if_true,Ent.mk.injEq,true_and,and_true]
   conv=>rhs;rw[<-zhY es]
   refine zds λcs hcs=>?_
   conv=>rhs;rw[id,<-zhY cs]
   exact zds λx hx=>zoZ 4 x (h cs hcs x hx)
def Calm(c:Nat)(lk tc:List Nat)(x:FS):Prop:=(∀k∈lk,(x.1 k).kill c 4=x.1 k)/\∀q∈tc,killL c x.2 q=x.2 q
theorem Calm.congr{c:Nat}{lk tc:List Nat}{x y:FS}(h:Calm c lk tc x)(ha:Agree lk tc y x):Calm c lk tc y:=
 ⟨λk hk=>by rw[ha.1 k hk];exact h.1 k hk,λq hq=>by
  have:=h.2 q hq;unfold killL at this ⊢;rw[ha.2 q hq]
  exact this⟩
structure Ind(ops:Array Oper)(a b:Mk):Prop where
 ba:bar a=false
 bb:bar b=false
 kk:a.res.kill=none\/b.res.kill=none
 d1:∀d,a.o.dst=some d->d ∉ Oper.looks ops b.o
 d2:∀d,b.o.dst=some d->d ∉ Oper.looks ops a.o
 d3:∀d,a.o.dst=some d->b.o.dst≠some d
 s1:∀c∈ids a.res.set,c ∉ b.touch
 s2:∀c∈ids b.res.set,c ∉ a.touch
 s3:∀c∈ids a.res.set,c ∉ ids b.res.set
 v1:∀c,a.res.kill=some c->b.res.val.kill c 4=b.res.val/\∀q e,look b.res.set q=some e->q≠c/\killE c e=e
 v2:∀c,b.res.kill=some c->a.res.val.kill c 4=a.res.val/\∀q e,look a.res.set q=some e->q≠c/\killE c e=e
 g1:∀c,a.res.kill=some c->Calm c (Oper.looks ops b.o) b.touch (fs a.pre)
 g2:∀c,b.res.kill=some c->Calm c (Oper.looks ops a.o) a.touch (fs a.pre)
theorem zGM:∀{l:List (Nat×Ent)} {q:Nat} {e:Ent},look l q=some e->(q,e)∈l
 |[],q,e,h=>by simp[look]at h
 |(j,e')::r,q,e,h=>by
   simp only[look]at h;split at h
   ·simp_all
   ·exact zc7 _ (zGM h)
theorem zug{c:Nat}{m:Mk}{pre:St}(h:quiet ops (some c) m pre=true):(m.res.val.kill c 4=m.res.val/\∀q e,look m.res.set q=some e->q≠c/\killE c e=e)/\Calm c (Oper.looks ops m.o) m.touch (fs pre):=by
 unfold quiet at h;simp only[zaO,zbH]at h;obtain⟨⟨⟨h1,h2⟩,h3⟩,h4⟩:=h;refine⟨⟨zoZ 4 _ h1,λq e hq=>?_⟩,λk hk=>zoZ 4 _ (h4 k hk),λq hq=>?_⟩
 ·have:=h2 (q,e) (zGM hq);exact⟨by simpa using this.1,zCu this.2⟩
 · have:=h3 q hq;have hne:q≠c:=by simpa using this.1
   have h5:=this.2;unfold killL;rw[if_neg hne];change(look pre.m q).map (killE c)=look pre.m q
   cases hl:look pre.m q with
   |none=>rfl
   |some e=>rw[hl]at h5;simp only[zbg];rw[zCu h5]
theorem Ind.of{a b:Mk}(h:indep ops a b=true):Ind ops a b:=by
 unfold indep at h;simp only[zaO,zc4]at h;obtain⟨⟨⟨⟨⟨⟨⟨⟨⟨⟨h1,h2⟩,hk⟩,q1⟩,q2⟩,h3⟩,h4⟩,h5⟩,h6⟩,h7⟩,h8⟩:=h;refine⟨h1,h2,?_,λd hd hm=>zqA h3 d (by simp[hd]) d hm rfl,λd hd hm=>zqA h4 d (by simp[hd]) d hm rfl,λd hd hm=>zqA h5 d (by simp[hd]) d (by simp[hm]) rfl,λc hc hm=>zqA h6 c hc c hm rfl,λc hc hm=>zqA h7 c hc c hm rfl,λc hc hm=>zqA h8 c hc c hm rfl,λc hc=>?_,λc hc=>?_,λc hc=>?_,λc hc=>?_⟩
 ·simp_all
 ·rw[hc]at q1;exact(zug q1).1
 ·rw[hc]at q2;exact(zug q2).1
 ·rw[hc]at q1;exact(zug q1).2
 ·rw[hc]at q2;exact(zug q2).2
theorem bar_false{m:Mk}(h:bar m=false):m.res.frz=[]/\m.res.re=[]:=by
 unfold bar at h
 simp_all
theorem zr4{m:Mk}(h:bar m=false)(x:FS):A m x=(λk=>if m.o.dst=some k then m.res.val else killO m.res.kill (x.1 k),λc=>match look m.res.set c with|some e=>some e|none=>killLO m.res.kill x.2 c):=by
 obtain⟨h2,h3⟩:=bar_false h;unfold A appF;congr 1
 ·funext k;simp only[applyT,h2,h3,frzO,killR]
 ·funext c;simp only[applyL,h2,h3,frzLO,killLR];rfl
theorem zs1{l:List (Nat×Ent)}{c:Nat}(h:c ∉ ids l):look l c=none:=by
 cases hq:look l c with
 |none=>rfl
 |some e=>exact absurd (zDO.1 (by simp[hq])) h
theorem A_comm0{a b:Mk}(ha:bar a=false)(hb:bar b=false)(hk:a.res.kill=none)(d3:∀d,a.o.dst=some d->b.o.dst≠some d)(s3:∀c∈ids a.res.set,c ∉ ids b.res.set)
  (v2:∀c,b.res.kill=some c->a.res.val.kill c 4=a.res.val/\∀q e,look a.res.set q=some e->q≠c/\killE c e=e) (x:FS):A a (A b x)=A b (A a x):=by
 rw[zr4 ha (A b x),zr4 hb x,zr4 hb (A a x),zr4 ha x];simp only[hk,killO,killLO];congr 1
 ·grind
 · funext c;by_cases h1:c∈ids a.res.set
   · have h2:look b.res.set c=none:=zs1 (s3 c h1);obtain⟨e,he⟩:=zaI.1 (zDO.2 h1);simp only[he,h2]
     cases hq:b.res.kill with
     |none=>simp only[he]
     |some c'=>obtain⟨q1,q2⟩:=(v2 c' hq).2 c e he;simp only[killL,he,if_neg q1,zbg,q2]
   · simp only[zs1 h1]
     cases look b.res.set c with
     |some e=>rfl
     |none =>
       simp only
       cases hq:b.res.kill with
       |none=>simp only[zs1 h1]
       |some c'=>simp only[killL,zs1 h1]
theorem A_comm{a b:Mk}(h:Ind ops a b)(x:FS):A a (A b x)=A b (A a x):=by
 rcases h.kk with hk|hk
 ·exact A_comm0 h.ba h.bb hk h.d3 h.s3 h.v2 x
 ·exact(A_comm0 h.bb h.ba hk (λd hd hm=>h.d3 d hm hd) (λc hc hm=>h.s3 c hm hc) h.v1 x).symm
theorem A_agree{m:Mk}{lk tc:List Nat}(hb:bar m=false)(h1:∀d,m.o.dst=some d->d ∉ lk)(h2:∀c∈ids m.res.set,c ∉ tc)(x:FS)(hk:∀c,m.res.kill=some c->Calm c lk tc x):Agree lk tc (A m x) x:=by
 rw[zr4 hb];refine⟨λk hkm=>?_,λc hc=>?_⟩
 · have:¬m.o.dst=some k:=λe=>h1 k e hkm
   simp only[this,if_false]
   cases hq:m.res.kill with
   |none=>rfl
   |some c=>exact(hk c hq).1 k hkm
 · have:look m.res.set c=none:=zs1 (λhm=>h2 c hm hc);simp only[this]
   cases hq:m.res.kill with
   |none=>rfl
   |some c'=>exact(hk c' hq).2 c hc
theorem A_agree2{m:Mk}{lk tc:List Nat}(hb:bar m=false){x y:FS}(h:Agree lk tc x y):Agree lk tc (A m x) (A m y):=by
 rw[zr4 hb,zr4 hb];refine⟨λk hk=>?_,λc hc=>?_⟩
 ·simp only;rw[h.1 k hk]
 · simp only
   cases look m.res.set c with
   |some e=>rfl
   |none =>
     simp only
     cases m.res.kill with
     |none=>exact h.2 c hc
     |some c'=>simp only[killLO,killL];rw[h.2 c hc]
theorem Agree.trans{lk tc:List Nat}{x y z:FS}(h:Agree lk tc x y)(h':Agree lk tc y z):Agree lk tc x z:=⟨λk hk=>(h.1 k hk).trans (h'.1 k hk),λc hc=>(h.2 c hc).trans (h'.2 c hc)⟩
theorem Agree.symm{lk tc:List Nat}{x y:FS}(h:Agree lk tc x y):Agree lk tc y x:=⟨λk hk=>(h.1 k hk).symm,λc hc=>(h.2 c hc).symm⟩
theorem Agree.refl{lk tc:List Nat}(x:FS):Agree lk tc x x:=⟨λ_ _=>rfl,λ_ _=>rfl⟩
theorem zFo:∀(l:List Oper) (i:Nat) (st st':St) (ml:List Mk),runOps P C M call N ops i l st=some (ml,st')->ml.length=l.length/\(∀m k,ml[m]?=some k->k.i=i+m/\l[m]?=some k.o/\fs k.pre=stp ml (fs st) (λ_=>true) m/\aStepF P C M call N ops k.o (stp ml (fs st) (λ_=>true) m)=some k.res/\k.touch=zo8 k.o (evF (stp ml (fs st) (λ_=>true) m).1) (stp ml (fs st) (λ_=>true) m).2)/\fs st'=stp ml (fs st) (λ_=>true) l.length
 |[],i,st,st',ml,h=>by simp[runOps]at h;obtain⟨rfl,rfl⟩:=h;exact⟨rfl,by simp,rfl⟩
 |o::l,i,st,st',ml,h=>by
   simp only[runOps]at h
   cases hs:aStep P C M call N ops o st with
   |none=>simp[hs]at h
   |some q =>
     obtain⟨r,st1⟩:=q;simp only[hs]at h
     cases hm:runOps P C M call N ops (i+1) l st1 with
     |none=>simp[hm]at h
     |some q =>
       obtain⟨ml1,st2⟩:=q;simp only[hm,zaf,zav]at h;obtain⟨rfl,rfl⟩:=h;obtain⟨e1,e2⟩:=zCY hs;obtain⟨i1,i2,i3⟩:=zFo l (i+1) st1 st2 ml1 hm
       have hstp:∀m,stp ({ i:=i,o:=o,res:=r,touch:=zo8 o (ev st.t) (look st.m),pre:=st }::ml1) (fs st) (λ_=>true) (m+1)=stp ml1 (fs st1) (λ_=>true) m:=by
        intro m
        induction m with
        |zero=>simp[stp,A,e2]
        |succ m ih=>rw[stp];simp only[zfg];rw[ih];rfl
       refine⟨by simp[i1],λm k hk=>?_,?_⟩
       · cases m with
         |zero=>simp at hk;subst hk;exact⟨rfl,rfl,rfl,e1,by rw[ev_eq];rfl⟩
         |succ m=>grind
       simp_all
theorem zCp:∀(ml:List Mk),drawOk ops ml=true->∀(i j:Nat) (a b:Mk),i<j->ml[i]?=some a->ml[j]?=some b->(preds ops b.i b.i).contains a.i=true\/indep ops a b=true
 |[],_,i,j,a,b,_,h,_=>by simp at h
 |m::ml,h,i,j,a,b,hij,ha,hb=>by
   simp only[drawOk,zaO]at h
   cases j with
   |zero=>omega
   |succ j =>
     cases i with
     |zero=>grind
     |succ i=>exact zCp ml h.2 i j a b (by omega) (by simpa using ha) (by simpa using hb)
theorem zAN:∀(l:List Oper) (i:Nat),zqC i l=true->∀j o,l[j]?=some o->∀e∈o.after,Region.binds .any e=true->e.on<i+j
 |[],_,_,j,o,h,_,_,_=>by simp at h
 |q::l,i,h,j,o,hj,e,he,hb=>by
   simp only[zqC,zaO]at h
   cases j with
   |zero=>grind
   |succ j=>have:=zAN l (i+1) h.2 j o (by simpa using hj) e he hb;omega
def DC(ops:Array Oper)(p:Nat->Bool):Prop:=∀j o,ops[j]?=some o->p j=true->∀e∈o.after,Region.binds .any e=true->p e.on=true
theorem preds_in{p:Nat->Bool}(hdc:DC ops p):∀(k i:Nat),(∀o,ops[i]?=some o->∀e∈o.after,Region.binds .any e=true->p e.on=true)->∀j∈preds ops k i,p j=true:=by
 intro k
 induction k with
 |zero=>intro i _ j hj;simp[preds]at hj
 |succ k ih =>
   intro i h j hj;simp only[preds]at hj
   cases ho:ops[i]? with
   |none=>simp[ho]at hj
   |some o =>
     simp only[ho]at hj;obtain⟨e,he,hj⟩:=zb2.1 hj;split at hj
     · rename_i hb;have hon:=h o ho e (by simpa using he) hb;rcases za4.1 hj with rfl|hj
       ·exact hon
       ·exact ih e.on (λo' ho' e' he' hb'=>hdc e.on o' ho' hon e' he' hb') j hj
     ·cases hj
theorem stp_all{ml:List Mk}{x0:FS}{p:Nat->Bool}:∀(m:Nat),(∀j,j<m->p j=true)->stp ml x0 p m=stp ml x0 (λ_=>true) m
 |0,_=>rfl
 |m+1,h=>by simp only[stp];rw[stp_all m (λj hj=>h j (by omega)),h m (by omega)];cases ml[m]?<;>simp
theorem stp_agree{ml:List Mk}{x0:FS}{p:Nat->Bool}{i:Nat}{ki:Mk}(hi:ml[i]?=some ki)(hpi:p i=false)
  (hfs:∀m k,ml[m]?=some k->fs k.pre=stp ml x0 (λ_=>true) m)
  (hind:∀(i j:Nat) (a b:Mk),i<j->ml[i]?=some a->ml[j]?=some b->(preds ops j j).contains i=true\/Ind ops a b)
  (hdc:∀j,p j=true->∀q∈preds ops j j,p q=true) (hpre:∀q∈preds ops i i,p q=true) (n:Nat) (hin:i<=n):Agree (Oper.looks ops ki.o) ki.touch (stp ml x0 p n) (stp ml x0 (λ_=>true) i):=by
 have before:∀m,m<=i->Agree (Oper.looks ops ki.o) ki.touch (stp ml x0 p m) (stp ml x0 (λ_=>true) m):=by
  intro m
  induction m with
  |zero=>intro _;exact Agree.refl _
  |succ m ih =>
    intro hm;have ih:=ih (by omega);simp only[stp]
    cases hq:ml[m]? with
    |none=>exact ih
    |some k =>
      simp only[if_true]
      cases hp:p m with
      |true =>
        simp only[if_true]
        cases hb:bar k with
        |false=>exact A_agree2 hb ih
        |true =>
          have:stp ml x0 p m=stp ml x0 (λ_=>true) m:=stp_all m (λj hj=>by
           cases hqj:ml[j]? with
           |none=>grind
           |some kj =>
             rcases hind j m kj k hj hqj hq with h|h
             ·grind
             ·rw[h.bb]at hb;cases hb)
          rw[this];exact Agree.refl _
      |false =>
        simp only[zbt,if_false];rcases hind m i k ki (by omega) hq hi with h|h
        ·simp_all
        ·exact ih.trans (A_agree h.ba h.d1 h.s1 _ (λc hc=>by rw[<-hfs m k hq];exact h.g1 c hc)).symm
 have after:∀m,i<=m->Agree (Oper.looks ops ki.o) ki.touch (stp ml x0 p m) (stp ml x0 p i):=by
  intro m
  induction m with
  |zero =>
    intro hm;have:i=0:=by omega
    subst this;exact Agree.refl _
  |succ m ih =>
    intro hm;by_cases he:i=m+1
    ·subst he;exact Agree.refl _
    · have ih:=ih (by omega);simp only[stp]
      cases hq:ml[m]? with
      |none=>exact ih
      |some k =>
        simp only
        cases hp:p m with
        |false=>exact ih
        |true =>
          simp only[if_true]
          have hlt:i<m:=by
           rcases ziu i m with h|h
           ·exact h
           ·grind
          rcases hind i m ki k hlt hi hq with h|h
          ·grind
          ·exact(A_agree h.bb h.d2 h.s2 _ (λc hc=>(h.g2 c hc).congr (by rw[hfs i ki hi];exact ih.trans (before i (zaX _))))).trans ih
 exact(after n hin).trans (before i (zaX _))
theorem stp_put{ml:List Mk}{x0:FS}{p p':Nat->Bool}{i:Nat}{ki:Mk}(hi:ml[i]?=some ki)(hpi:p i=false)(hp':∀j,p' j=if j=i then true else p j)
  (hind:∀(i j:Nat) (a b:Mk),i<j->ml[i]?=some a->ml[j]?=some b->(preds ops j j).contains i=true\/Ind ops a b)
  (hdc:∀j,p j=true->∀q∈preds ops j j,p q=true) (n:Nat) (hin:i<n):A ki (stp ml x0 p n)=stp ml x0 p' n:=by
 have before:∀m,m<=i->stp ml x0 p m=stp ml x0 p' m:=by
  intro m
  induction m with
  |zero=>intro _;rfl
  |succ m ih =>
    intro hm;simp only[stp]
    grind
 have after:∀m,i<m->A ki (stp ml x0 p m)=stp ml x0 p' m:=by
  intro m
  induction m with
  |zero=>intro h;omega
  |succ m ih =>
    intro hm;by_cases he:i=m
    · subst he;simp only[stp,hi,hpi,hp' i,if_true,zbt,if_false]
      simp_all
    · have ih:=ih (by omega);simp only[stp]
      cases hq:ml[m]? with
      |none=>exact ih
      |some k =>
        simp only;have hpm:p' m=p m:=by grind
        rw[hpm]
        cases hp:p m with
        |false=>simpa using ih
        |true =>
          simp only[if_true];rcases hind i m ki k (by omega) hi hq with h|h
          ·grind
          ·rw[A_comm h,ih]
 exact after n hin
end
end Go.Ab
namespace Go.Ab
open Go.RowKit
variable[Dr]
section
variable{P:Program}{C:Cfg}{M:List Nat}{call:zcv}{N:Nat}{ops:Array Oper}{Q:Exit->Act->World->Prop}
variable{w0:World}{S0:Nat->Prop}{κ0:Kap}{K:Nat->Prop}
def pOf(listed:Array Bool):Nat->Bool:=λj=>listed.getD j false
theorem pOf_put(listed:Array Bool)(i:Nat)(hi:i<listed.size):∀j,pOf (listed.setIfInBounds i true) j=if j=i then true else pOf listed j:=by
 intro j;unfold pOf;by_cases hj:j=i
 ·subst hj;simp[hi]
 · have:i≠j:=λe=>hj e.symm
   simp_all
theorem pOf_none(n j:Nat):pOf (Array.replicate n false) j=false:=by unfold pOf;rw[zcH,Array.getElem?_replicate];split<;>rfl
def left_(n:Nat)(p:Nat->Bool):Nat:=((List.range n).filter λj=>!p j).length
theorem left_put{n i:Nat}{p p':Nat->Bool}(hi:i<n)(hpi:p i=false)(hp':∀j,p' j=if j=i then true else p j):left_ n p'<left_ n p:=by
 unfold left_
 have h1:(List.range n).filter (λj=>!p' j)=((List.range n).filter (λj=>!p j)).filter (λj=>j !=i):=by
  rw[List.filter_filter];apply List.filter_congr;intro j _;rw[hp' j];by_cases hj:j=i
  ·simp[hj]
  ·simp[hj]
 rw[h1];exact List.length_filter_lt_length_iff_exists.2 ⟨i,zcc.2 ⟨ze9.2 hi,by simp[hpi]⟩,by simp⟩
theorem draw_sound(hcall:CallOK P call)(hN:N<=1000){ml:List Mk}{x0:FS}(hlen:ml.length=ops.size)
  (hml:∀m k,ml[m]?=some k->ops[m]?=some k.o/\fs k.pre=stp ml x0 (λ_=>true) m/\aStepF P C M call N ops k.o (stp ml x0 (λ_=>true) m)=some k.res/\k.touch=zo8 k.o (evF (stp ml x0 (λ_=>true) m).1) (stp ml x0 (λ_=>true) m).2)
  (hind:∀(i j:Nat) (a b:Mk),i<j->ml[i]?=some a->ml[j]?=some b->(preds ops j j).contains i=true\/Ind ops a b)
  (hedge:∀j o,ops[j]?=some o->∀e∈o.after,Region.binds .any e=true->e.on<j)
  (hQ:∀a w,GoodF w0 S0 κ0 K N (stp ml x0 (λ_=>true) ops.size) a w->Q .normal a w):∀(fuel:Nat) (listed:Array Bool) (a:Act) (w:World),listed.size=ops.size->left_ ops.size (pOf listed)<=fuel->DC ops (pOf listed)->GoodF w0 S0 κ0 K N (stp ml x0 (pOf listed) ops.size) a w->wpAny P .any ops Q fuel listed a w:=by
 have done:∀(listed:Array Bool) (a:Act) (w:World),listed.size=ops.size->GoodF w0 S0 κ0 K N (stp ml x0 (pOf listed) ops.size) a w->Region.ready .any ops listed=[]->Q .normal a w:=by
  intro listed a w hs hg hr
  have hall:∀j,j<ops.size->pOf listed j=true:=by
   intro j
   induction j using Nat.strongRecOn with
   |_ j ih =>
     intro hj
     cases hp:pOf listed j with
     |true=>rfl
     |false =>
       exfalso
       have hmem:j∈Region.ready .any ops listed:=by
        refine mem_ready.2 ⟨?_,ops[j],zaU hj,λe he hb=>?_⟩
        · unfold pOf at hp
          simp_all
        ·have hlt:=hedge j _ (zaU hj) e he hb;exact ih e.on hlt (by omega)
       simp_all
  rw[stp_all ops.size hall]at hg;exact hQ a w hg
 have step:∀(listed:Array Bool) (a:Act) (w:World) (i:Nat),listed.size=ops.size->DC ops (pOf listed)->GoodF w0 S0 κ0 K N (stp ml x0 (pOf listed) ops.size) a w->i∈Region.ready .any ops listed->i<ops.size/\pOf listed i=false/\DC ops (pOf (listed.setIfInBounds i true))/\∀Kc:Act->World->Prop,(∀a' w',GoodF w0 S0 κ0 K N (stp ml x0 (pOf (listed.setIfInBounds i true)) ops.size) a' w'->Kc a' w')->wpOp P ops Q i Kc a w:=by
  intro listed a w i hs hdc hg hi;obtain⟨hu,o,ho,hed⟩:=mem_ready.1 hi;have hin:i<ops.size:=(zcM.1 ho).1
  have hpi:pOf listed i=false:=by
   unfold pOf;have hil:i<listed.size:=by omega
   simp[hil]at hu ⊢;exact hu
  have hput:=pOf_put listed i (by omega)
  have hpre:∀q∈preds ops i i,pOf listed q=true:=preds_in hdc i i (λo' ho' e he hb=>by
   rw[ho]at ho';injection ho' with ho';subst ho'
   exact hed e he hb)
  have hdcp:∀j,pOf listed j=true->∀q∈preds ops j j,pOf listed q=true:=λj hj=>preds_in hdc j j (λo' ho' e he hb=>hdc j o' ho' hj e he hb)
  refine⟨hin,hpi,?_,?_⟩
  · intro j o' ho' hj e he hb;rw[hput]at hj ⊢;by_cases hji:j=i
    · subst hji;rw[ho]at ho';injection ho' with ho';subst ho';split
      ·rfl
      ·exact hed e he hb
    · rw[if_neg hji]at hj;split
      ·rfl
      ·exact hdc j o' ho' hj e he hb
  · intro Kc hK;have hlt:i<ml.length:=by omega
    have hmi:ml[i]?=some ml[i]:=zaa hlt;obtain⟨h1,_,h2,h3⟩:=hml i ml[i] hmi;have hag:=stp_agree (x0:=x0) hmi hpi (λm k hk=>(hml m k hk).2.1) hind hdcp hpre ops.size (by omega);rw[ho]at h1;injection h1 with h1
    have hst:aStepF P C M call N ops ml[i].o (stp ml x0 (pOf listed) ops.size)=some ml[i].res:=by rw[<-h2];refine(zKo ?_).symm;rw[<-h3];exact hag.symm
    refine zwK hcall hN (by rw[ho,h1]) hst hg (λa' w' hg'=>hK a' w' ?_);rw[<-stp_put hmi hpi hput hind hdcp ops.size hin];exact hg'
 intro fuel
 induction fuel with
 |zero =>
   intro listed a w hs hl hdc hg
   have hnil:Region.ready .any ops listed=[]:=by
    cases hr:Region.ready .any ops listed with
    |nil=>rfl
    |cons i r=>exfalso;obtain⟨hin,hpi,_⟩:=step listed a w i hs hdc hg (by simp_all);have:=left_put hin hpi (pOf_put listed i (by omega));omega
   exact⟨hnil,done listed a w hs hg hnil⟩
 |succ fuel ih=>intro listed a w hs hl hdc hg;refine⟨done listed a w hs hg,λi hi=>?_⟩;obtain⟨hin,hpi,hdc',hwp⟩:=step listed a w i hs hdc hg hi;refine hwp _ (λa' w' hg'=>ih _ a' w' (by simpa using hs) ?_ hdc' hg');have:=left_put hin hpi (pOf_put listed i (by omega));omega
theorem GoodF.drew{x:FS}{a:Act}{w:World}(h:GoodF w0 S0 κ0 K N x a w)(n:Nat)(hn:w.drawn<=n):GoodF w0 S0 κ0 K N x a { w with drawn:=n }:=by
 obtain⟨S,κ,h⟩:=h
 have hE:∀{D:Nat->Prop} {kb:Option (Nat×Nat)} {ent:Ent},EntAt S κ D w kb ent->EntAt S κ D { w with drawn:=n } kb ent:=λhE=>hE.mono (λ_ h=>h) (λ_ _=>rfl) (λ_ h=>h) (λ_ _=>rfl) (λg c hk=>⟨rfl,by
  rw[hk]at hE
  exact hE.notS⟩)
 exact⟨S,κ,{ h with
  output:=h.output.trans (.of rfl hn)
  ents:=λb ent hb=>hE (h.ents b ent hb)
  slots:=λk=>VRel.mono (w:=w) (w':={ w with drawn:=n }) (λ_ h=>h) (λ_ _=>rfl) (λ_ h=>h) (λ_ _=>rfl) (h.slots k) }⟩
theorem zA6(hcall:CallOK P call)(hN:N<=1000){id:Nat}{draw:Bool}{st st':St}(h:zkE P C M call N ops draw st=some st'){a:Act}{w:World}(hg:GoodF w0 S0 κ0 K N (fs st) a w)
  (hQ:∀a w,GoodF w0 S0 κ0 K N (fs st') a w->Q .normal a w):(Code.region id ops draw).wp P Q a w:=by
 unfold zkE at h;have hg1:=hg.preDel ops.toList st
 cases ho:runOps P C M call N ops 0 ops.toList (preDel ops.toList st)with
 |none=>simp_all
 |some q =>
   obtain⟨ml,st1⟩:=q;simp only[ho]at h;split at h
   case isFalse=>cases h
   rename_i hcond;injection h with h;subst h
   cases draw with
   |true =>
     have hok:((drawOk ops ml=true/\zqC 0 ops.toList=true)/\P.follows .mixedOrders=true):=by simpa using hcond
     obtain⟨⟨hok1,hok2⟩,hok3⟩:=hok;obtain⟨m1,m2,hfin⟩:=zFo ops.toList 0 (preDel ops.toList st) st1 ml ho;have hki:∀(m:Nat) (k:Mk),ml[m]?=some k->k.i=m:=λm k hk=>by grind
     refine wp_region_any hok3 (draw_sound (C:=C) (M:=M) (w0:=w0) (S0:=S0) (κ0:=κ0) (K:=K) hcall hN (ml:=ml) (x0:=fs (preDel ops.toList st)) (by simpa using m1) ?_ ?_ ?_ ?_ ops.size _ a _ (by simp) ?_ ?_ ?_)
     ·grind
     · intro i j x y hij hx hy;rcases zCp ml hok1 i j x y hij hx hy with h|h
       ·grind
       ·exact .inr (Ind.of h)
     ·intro j o hj e he hb;have:=zAN ops.toList 0 hok2 j o (by simpa using hj) e he hb;omega
     ·simp_all
     · unfold left_
       grind
     ·intro j o hj hp;rw[pOf_none]at hp;cases hp
     · have h0:∀n,stp ml (fs (preDel ops.toList st)) (pOf (Array.replicate ops.size false)) n=fs (preDel ops.toList st):=by
        intro n
        induction n with
        |zero=>rfl
        |succ n ih=>simp only[stp];rw[pOf_none,ih];cases ml[n]?<;>simp
       rw[h0];exact hg1.drew _ (Nat.le_succ _)
   |false=>refine wp_region ?_;have:=zGW hcall hN ops.toList 0 (preDel ops.toList st) st1 ml ho (λj o hj=>by simpa using hj) a w hg1 hQ;rw[<-List.range_eq_range']at this;simpa using this
end
end Go.Ab
namespace Go.Ab
open Go.RowKit
variable[Dr]
section
variable{P:Program}{N:Nat}{w0:World}{S0:Nat->Prop}{κ0:Kap}{K:Nat->Prop}{S:Nat->Prop}{κ:Kap}{T:Nat->AV}{L:Nat->Option Ent}{a:Act}{w:World}
theorem Good.addNil(h:Good w0 S0 κ0 K N S κ T L a w){s:Nat}(hs:s<1000)(hL:L s=none)(z:Nat)(e:TypeId)(hz:0<z):Good w0 S0 κ0 K N S (λb=>if b=s then none else κ b) T (λb=>if b=s then some { z:=z,e:=e,es:=[],box:=false }else L b) a w:=by
 have hne:∀b,(L b).isSome=true->b≠s:=λb hb e=>by simp_all
 have hD:∀b,(L b).isSome=true->(if b=s then some ({ z:=z,e:=e,es:=[],box:=false }:Ent)else L b).isSome=true:=λb hb=>by simp_all
 have hκ:∀b,(L b).isSome=true->(λb=>if b=s then none else κ b) b=κ b:=λb hb=>if_neg (hne b hb)
 have hcase:∀b,(if b=s then some ({ z:=z,e:=e,es:=[],box:=false }:Ent)else L b).isSome=true->b=s\/(b≠s/\(L b).isSome=true):=λb hb=>by grind
 exact{ h with
  par:=λb hb=>by
   have:b≠s:=by omega
   simp only[if_neg this];exact h.par b hb
  parK:=λb hb hl=>by
   rcases hcase b hl with e|⟨_,hl⟩
   ·omega
   ·exact h.parK b hb hl
  own:=λb g c hb hl hk=>by
   rcases hcase b hl with e|⟨hbs,hl⟩
   ·subst e;simp at hk
   ·simp only[if_neg hbs]at hk;exact h.own b g c hb hl hk
  inj:=λb b' g c c' hl hl' hk hk'=>by
   rcases hcase b hl with e|⟨hbs,hl⟩
   ·subst e;simp at hk
   · rcases hcase b' hl' with e|⟨hbs',hl'⟩
     ·subst e;simp at hk'
     ·simp only[if_neg hbs]at hk;simp only[if_neg hbs']at hk';exact h.inj b b' g c c' hl hl' hk hk'
  ents:=λb ent hb=>by
   by_cases hbs:b=s
   ·subst hbs;simp at hb;subst hb;refine EntAt.of (.inr hz) ⟨by simp,?_⟩;simp
   · rw[if_neg hbs]at hb;have hl:(L b).isSome=true:=by simp[hb]
     have hE:=h.ents b ent hb;simp only[if_neg hbs];refine hE.mono (λ_ h=>h) (λ_ _=>rfl) hD hκ (λg c hk=>⟨rfl,?_⟩);rw[hk]at hE;exact hE.notS
  slots:=λk=>(h.slots k).mono (λ_ h=>h) (λ_ _=>rfl) hD hκ }
theorem Good.recell(h:Good w0 S0 κ0 K N S κ T L a w){B j:Nat}{ent:Ent}{cs:List AV}{a0 a1:AV}(hB:L B=some ent)(hbx:ent.box=true)(hes:ent.es=[cs])(hj:cs[j]?=some a0)
  (hv:∀x,VRel S κ (λb=>(L b).isSome=true) w a0 x->VRel S κ (λb=>(L b).isSome=true) w a1 x):Good w0 S0 κ0 K N S κ T (λb=>if b=B then some { ent with es:=[cs.set j a1] }else L b) a w:=by
 have hiff:(λb=>(if b=B then some ({ ent with es:=[cs.set j a1] }:Ent)else L b).isSome=true)=(λb=>(L b).isSome=true):=by
  funext b;by_cases hb:b=B
  ·subst hb;simp[hB]
  ·rw[if_neg hb]
 have hi:∀b,(if b=B then some ({ ent with es:=[cs.set j a1] }:Ent)else L b).isSome=true->(L b).isSome=true:=λb hb=>by grind
 exact{ h with
  parK:=λb hb hl=>h.parK b hb (hi b hl)
  own:=λb g c hb hl hk=>h.own b g c hb (hi b hl) hk
  inj:=λb b' g c c' hl hl' hk hk'=>h.inj b b' g c c' (hi b hl) (hi b' hl') hk hk'
  ents:=λb en hb=>by
   rw[hiff];by_cases hbB:b=B
   · subst hbB;simp at hb;subst hb;obtain⟨h1,h2⟩:=(h.ents b ent hB).1 (.inl hbx);refine EntAt.of (.inl hbx) ⟨?_,?_⟩
     ·simp_all
     · cases hk:κ b with
       |none=>simp_all
       |some gc =>
         obtain⟨g,c⟩:=gc;rw[hk]at h2;obtain⟨cells,q1,q2,q3,q4,q5,q6⟩:=h2;refine⟨cells,q1,q2,by simpa[hes]using q3,q4,q5,λi k cs' av hi' hk'=>?_⟩
         cases i with
         |succ i=>simp at hi'
         |zero =>
           simp at hi';subst hi';by_cases hkj:k=j
           · subst hkj;obtain⟨u,u1,u2,u3,u4⟩:=q6 0 k cs a0 (by simp[hes]) hj
             grind
           · rw[zdy (λe=>hkj e.symm)]at hk';obtain⟨u,u1,u2,u3,u4⟩:=q6 0 k cs av (by simp[hes]) hk'
             simp_all
   ·rw[if_neg hbB]at hb;exact h.ents b en hb
  slots:=λk=>by rw[hiff];exact h.slots k }
theorem zGZ{κ':Kap}{D D':Nat->Prop}{b s:Nat}(hD:∀c,D c->D' (if c=b then s else c))(hκ:∀c,D c->κ' (if c=b then s else c)=κ c):∀(k:Nat) {a:AV} {x:Value},VRel S κ D w a x->VRel S κ' D' w (a.ren b s k) x:=by
 intro k
 induction k with
 |zero=>intro a x _;exact .bot x
 |succ k ih =>
   intro a x h
   have lists:∀(cs:List AV) (vs:Array Value),vs.size=cs.length->(∀(j:Nat) (c:AV) (x:Value),cs[j]?=some c->vs[j]?=some x->VRel S κ D w c x)->vs.size=(cs.map (AV.ren b s k)).length/\∀(j:Nat) (c:AV) (x:Value),(cs.map (AV.ren b s k))[j]?=some c->vs[j]?=some x->VRel S κ' D' w c x:=by
    intro cs vs hl hr;refine⟨by simpa using hl,λj c x hj hx=>?_⟩;rw[zbC]at hj
    cases hc:cs[j]? with
    |none=>simp[hc]at hj
    |some c'=>grind
   cases a with
   |bot=>exact .bot x
   |v y=>rw[h.v_inv];exact .c (.v _)
   |sl z es=>exact .c h.sl_inv
   |fp cs=>exact .c h.fp_inv
   |agg cs=>obtain⟨vs,rfl,hl,h1,hr⟩:=h.agg_inv;obtain⟨q1,q2⟩:=lists cs vs hl hr;exact .agg _ vs q1 h1 q2
   |tup cs=>obtain⟨vs,rfl,hl,hr⟩:=h.tup_inv;obtain⟨q1,q2⟩:=lists cs vs hl hr;exact .tup _ vs q1 q2
   |fn f cs=>obtain⟨vs,rfl,hl,hr⟩:=h.fn_inv;obtain⟨q1,q2⟩:=lists cs vs hl hr;exact .fn f _ vs q1 q2
   |loc c z i o=>obtain⟨g,cp,hd,hk,rfl⟩:=h.loc_inv;exact .loc _ z i o g cp (hD c hd) ((hκ c hd).trans hk)
   |row c z o n =>
     cases h with
     |c h=>cases h
     |row0 _ _ hd hk=>exact .row0 _ z (hD c hd) ((hκ c hd).trans hk)
     |row _ _ _ _ g cp off' cap hd hk hn ho hc=>exact .row _ z o n g cp off' cap (hD c hd) ((hκ c hd).trans hk) hn ho hc
   |map c=>obtain⟨g,cp,hd,hk,rfl⟩:=h.map_inv;exact .map _ g cp (hD c hd) ((hκ c hd).trans hk)
   |mp es=>exact .c h.mp_inv
   |fa z es=>exact .c h.fa_inv
   |new=>exact .bot x
   |newp=>exact .bot x
   |newm=>exact .bot x
theorem zDF(b s:Nat):∀(t:Tab) (k:Nat),get (renT b s t) k=(get t k).ren b s 4
 |[],k=>rfl
 |(j,a)::r,k=>by
   simp only[renT,get];split
   ·rfl
   ·exact zDF b s r k
def renL(b s:Nat)(L:Nat->Option Ent):Nat->Option Ent:=λc=>if c=s then(L b).map (renE b s)else if c=b then none else(L c).map (renE b s)
theorem zAW{b s:Nat}(hbs:b≠s):∀(m:Mem) (c:Nat),look m s=none->look (renM b s m) c=renL b s (look m) c
 |[],c,_=>by simp[renM,look,renL]
 |(j,e)::r,c,h=>by
   simp only[look]at h;split at h
   ·cases h
   · rename_i hsj;have ih:=zAW hbs r c h;simp only[renM,look];by_cases hjb:j=b
     · subst hjb;rw[if_pos rfl];by_cases hcs:c=s
       ·subst hcs;simp[renL]
       · rw[if_neg hcs,ih];unfold renL
         simp_all
     · rw[if_neg hjb];by_cases hcj:c=j
       · subst hcj;rw[if_pos rfl];have hcs:c≠s:=λe=>hsj e.symm
         unfold renL
         simp_all
       · rw[if_neg hcj,ih];unfold renL
         grind
theorem Good.ren(h:Good w0 S0 κ0 K N S κ T L a w){b s:Nat}(hb:b<1000)(hs:s<1000)(hbs:b≠s)(hL:L s=none):Good w0 S0 κ0 K N S (λc=>if c=s then κ b else κ c) (λk=>(T k).ren b s 4) (renL b s L) a w:=by
 have hne:∀c,(L c).isSome=true->c≠s:=λc hc e=>by simp_all
 have hD:∀c,(L c).isSome=true->(renL b s L (if c=b then s else c)).isSome=true:=λc hc=>by
  unfold renL
  grind
 have hκ:∀c,(L c).isSome=true->(λc=>if c=s then κ b else κ c) (if c=b then s else c)=κ c:=λc hc=>by simp_all
 have hcase:∀c,(renL b s L c).isSome=true->(c=s/\(L b).isSome=true)\/(c≠s/\c≠b/\(L c).isSome=true):=λc hc=>by
  unfold renL at hc
  grind
 have hE:∀c ent,L c=some ent->EntAt S (λc=>if c=s then κ b else κ c) (λc=>(renL b s L c).isSome=true) w (κ c) (renE b s ent):=λc ent hc=>by
  have hE:=h.ents c ent hc;unfold renE
  cases hbx:ent.box with
  |false=>simp only[zbt,if_false];exact hE.handed (λ_ h=>h) (λg cp hk=>by rw[hk]at hE;exact hE.notS) (λhb'=>by simp_all)
  |true =>
    simp only[if_true];obtain⟨h1,h2⟩:=hE.1 (.inl hbx);refine EntAt.of (.inl rfl) ⟨?_,?_⟩
    ·simp_all
    · cases hk:κ c with
      |none=>simp_all
      |some gc =>
        obtain⟨g,cp⟩:=gc;rw[hk]at h2;obtain⟨cells,q1,q2,q3,q4,q5,q6⟩:=h2;refine⟨cells,q1,q2,by simpa using q3,by simpa[Ent.cap,hbx]using q4,q5,λi j cs av hi hj=>?_⟩;simp only[zbC]at hi
        cases hi0:ent.es[i]? with
        |none=>simp[hi0]at hi
        |some cs0 =>
          simp only[hi0,zbg,zaf]at hi;subst hi;simp only[zbC]at hj
          cases hj0:cs0[j]? with
          |none=>simp[hj0]at hj
          |some a0=>simp only[hj0,zbg,zaf]at hj;subst hj;obtain⟨u,u1,u2,u3,_⟩:=q6 i j cs0 a0 hi0 hj0;exact⟨u,u1,u2,λ_=>zGZ hD hκ 4 (u3 hbx),λhb'=>by simp at hb'⟩
 exact{ h with
  par:=λc hc=>by
   have:c≠s:=by omega
   simp only[if_neg this];exact h.par c hc
  parK:=λc hc hl=>by
   rcases hcase c hl with⟨e,_⟩|⟨_,_,hl⟩
   ·omega
   ·exact h.parK c hc hl
  own:=λc g cp hc hl hk=>by
   rcases hcase c hl with⟨e,hl⟩|⟨hcs,_,hl⟩
   ·simp only[if_pos e]at hk;exact h.own b g cp hb hl hk
   ·simp only[if_neg hcs]at hk;exact h.own c g cp hc hl hk
  inj:=λc c' g cp cp' hl hl' hk hk'=>by
   rcases hcase c hl with⟨e,hl⟩|⟨hcs,hcb,hl⟩
   · rcases hcase c' hl' with⟨e',_⟩|⟨hcs',hcb',hl'⟩
     ·rw[e,e']
     ·simp only[if_pos e]at hk;simp only[if_neg hcs']at hk';exact absurd (h.inj b c' g cp cp' hl hl' hk hk').symm hcb'
   · simp only[if_neg hcs]at hk;rcases hcase c' hl' with⟨e',hl'⟩|⟨hcs',hcb',hl'⟩
     ·simp only[if_pos e']at hk';exact absurd (h.inj c b g cp cp' hl hl' hk hk') hcb
     ·simp only[if_neg hcs']at hk';exact h.inj c c' g cp cp' hl hl' hk hk'
  ents:=λc en hc=>by
   unfold renL at hc;by_cases hcs:c=s
   · rw[if_pos hcs]at hc
     cases hb0:L b with
     |none=>simp[hb0]at hc
     |some ent=>grind
   · rw[if_neg hcs]at hc;by_cases hcb:c=b
     ·simp_all
     · rw[if_neg hcb]at hc
       cases hc0:L c with
       |none=>simp[hc0]at hc
       |some ent=>grind
  slots:=λk=>zGZ hD hκ 4 (h.slots k) }
theorem zDl(s:Nat)(st:St):look (del s st).m s=none:=by show look (delM s st.m) s=none;rw[ziq];simp[killL]
theorem zDV{s:Nat}{st:St}(hs:s<1000)(h:GoodF w0 S0 κ0 K N (fs st) a w)(b:Nat):GoodF w0 S0 κ0 K N (fs (if b=s then st else if b<1000 then renS b s (del s st)else st)) a w:=by
 split
 ·exact h
 · rename_i hbs;split
   case isFalse=>exact h
   rename_i hb;obtain⟨S,κ,h1⟩:=h.del s;have:=h1.ren hb hs hbs (zDl s st);have e1:(fs (renS b s (del s st))).1=λk=>((fs (del s st)).1 k).ren b s 4:=funext λk=>zDF b s _ k
   have e2:(fs (renS b s (del s st))).2=renL b s (fs (del s st)).2:=funext λc=>zAW hbs _ c (zDl s st)
   rw[<-e1,<-e2]at this;exact⟨S,_,this⟩
theorem cell1_good{B j s z:Nat}{e:TypeId}{st:St}(h:GoodF w0 S0 κ0 K N (fs st) a w):GoodF w0 S0 κ0 K N (fs (cell1 B j s z e st)) a w:=by
 unfold cell1;split
 case isFalse =>
  split
  case isFalse=>exact h
  split
  case h_2=>exact h
  rename_i ent hB;split
  case h_2=>exact h
  rename_i cs hbx hes;split
  case h_2=>exact h
  rename_i hj;obtain⟨S,κ,h1⟩:=h
  have h2:=h1.recell (B:=B) (j:=j) (ent:=ent) (cs:=cs) (a0:=.v (.slice none 0 0)) (a1:=.sl z []) hB hbx hes hj (λx hx=>by
   have hx':=VRel.v_inv hx;subst hx'
   exact .c (CRel.nil_sl z))
  have e2:(fs ({ t:=st.t,m:=repM (B,{ ent with es:=[cs.set j (.sl z [])] }) st.m }:St)).2=(λb=>if b=B then some { ent with es:=[cs.set j (.sl z [])] }else(fs st).2 b):=funext λc=>by show look (repM _ _) c=_;rw[zvM _ _ _ (by simp[hB])];rfl
  rw[<-e2]at h2;exact⟨S,κ,h2⟩
 rename_i hc;obtain⟨hs,hBs,hzp⟩:=hc;split
 case h_2=>exact h
 split
 case h_2=>exact h
 split
 ·exact zDV hs h _
 ·exact zDV hs h _
 · simp only;split
   case h_2=>exact h
   rename_i ent' hB';split
   case h_2=>exact h
   rename_i cs' hbx hes;split
   case h_2=>exact h
   rename_i hj;obtain⟨S,κ,h1⟩:=h.del s;have h2:=h1.addNil hs (zDl s st) z e hzp
   have h3:=h2.recell (B:=B) (j:=j) (ent:=ent') (cs:=cs') (a0:=.v (.slice none 0 0)) (a1:=.row s z 0 0) (by rw[if_neg hBs];exact hB') hbx hes hj (λx hx=>by
    have hx':=VRel.v_inv hx;subst hx'
    exact .row0 s z (by simp) (by simp))
   have e2:(fs ({ t:=(del s st).t,m:=(s,{ z:=z,e:=e,es:=[],box:=false })::repM (B,{ ent' with es:=[cs'.set j (.row s z 0 0)] }) (del s st).m }:St)).2 =
     (λb=>if b=B then some { ent' with es:=[cs'.set j (.row s z 0 0)] }else if b=s then some { z:=z,e:=e,es:=[],box:=false }else(fs (del s st)).2 b):=funext λc=>by
    show look ((s,_)::repM _ _) c=_;simp only[look];rw[zvM _ _ _ (by simp[hB'])];by_cases hcs:c=s
    ·grind
    ·rw[if_neg hcs];simp only[if_neg hcs];rfl
   rw[<-e2]at h3;exact⟨S,_,h3⟩
 ·exact h
theorem zAv{a:Act}{w:World}:∀(l:List (Nat×Nat×Nat×Nat×TypeId)) (st:St),GoodF w0 S0 κ0 K N (fs st) a w->GoodF w0 S0 κ0 K N (fs (zr9 l st)) a w
 |[],_,h=>h
 |_::l,_,h=>zAv l _ (cell1_good h)
end
end Go.Ab
end
