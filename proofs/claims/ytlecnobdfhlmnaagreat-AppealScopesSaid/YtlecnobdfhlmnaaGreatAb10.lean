/- Parts of a region, and ranges over a map: the run hands out the entries in an order of its own. -/
import Derived.Test.YtlecnobdfhlmnaaGreatAb9
import Derived.Maps.RangeRun
import Derived.Control
set_option linter.unusedSimpArgs false
set_option linter.unusedVariables false
set_option linter.unusedSectionVars false
noncomputable section
namespace Go.Ab
open Go.RowKit
variable[Dr]
open Go.ChangeMaps (setBlock)
section
variable{w0:World}{S0:Nat->Prop}{κ0:Kap}{K:Nat->Prop}{N:Nat}{S S':Nat->Prop}{κ κ':Kap}{a:Act}{w w':World}{st st':St}{L L':Nat->Option Ent}
abbrev Sat2:=(Nat->Prop)->Kap->(Nat->Option Ent)->World->Prop
structure Stable(X:Sat2):Prop where
 step:∀{S S':Nat->Prop} {κ κ':Kap} {L L':Nat->Option Ent} {w w':World},X S κ L w->(∀g,S g->S' g)->(∀g,Far S κ L w g->w'.heap[g]?=w.heap[g]?/\Far S' κ' L' w' g)->(∀g,S g->w'.heap[g]?=w.heap[g]?)->X S' κ' L' w'
 kap:∀{S:Nat->Prop} {κ κ':Kap} {L L':Nat->Option Ent} {w:World},X S κ L w->(∀b g c,(L' b).isSome=true->κ' b=some (g,c)->∃b0 c0,(L b0).isSome=true/\κ b0=some (g,c0))->X S κ' L' w
theorem Stable.none:Stable λ_ _ _ _=>True:=⟨λ_ _ _ _=>trivial,λ_ _=>trivial⟩
def NowP(w0:World)(S0:Nat->Prop)(κ0:Kap)(K:Nat->Prop)(N:Nat)(X:Sat2)(st:St)(a:Act)(w:World):Prop:=∃S κ,GoodS w0 S0 κ0 K N S κ st a w/\X S κ (look st.m) w
theorem NowP.trim{X:Sat2}(hX:Stable X)(h:NowP w0 S0 κ0 K N X st a w)(ks ds:List Nat)(e:Ab.trim ks ds st=st'):NowP w0 S0 κ0 K N X st' a w:=by obtain⟨S,κ,h1,h2⟩:=h;subst e;exact⟨S,κ,h1.trim ks ds,hX.kap h2 (λb g c hl hk=>⟨b,c,zAX ks ds st b hl,hk⟩)⟩
theorem NowP.bool{X:Sat2}(h:NowP w0 S0 κ0 K N X st a w){k:Nat}{b:Bool}(hk:get st.t k=.v (.bool b)):a.eval (.tmp k)=.bool b:=by obtain⟨S,κ,h1,_⟩:=h;have:=h1.slots k;rw[hk]at this;exact this.v_inv
def cnt(a:Act)(k:Nat):Nat:=match a.tmps.getD k undef with
 |.int _ n=>n.toNat
 |_=>0
theorem NowP.cnt{X:Sat2}(h:NowP w0 S0 κ0 K N X st a w){k:Nat}{q:IntKind}{n:Int}(hk:get st.t k=.v (.int q n)):Ab.cnt a k=n.toNat:=by obtain⟨S,κ,h1,_⟩:=h;have:=h1.slots k;rw[hk]at this;unfold Ab.cnt;rw[this.v_inv]
theorem stepP{R:Fr}{T:Dic}{j id:Nat}{ops:Array Oper}{draw:Bool}{c:Code}{X:Sat2}(hX:Stable X)(hb:R.fn.body=some c)(hN:R.fn.ntmps<=1000)(hr:regOf j c=some (.region id ops draw))(ht:tReg R T j st=some st')
  (h:NowP w0 S0 κ0 K R.fn.ntmps X st a w) {Q:Exit->Act->World->Prop} (hQ:∀a' w',NowP w0 S0 κ0 K R.fn.ntmps X st' a' w'->Q .normal a' w'):(Code.region id ops draw).wp R.P Q a w:=by
 obtain⟨S,κ,h1,h2⟩:=h;exact leafR hb hr ht hN h1 (λa' w' S' κ' hg hS hf hw=>hQ a' w' ⟨S',κ',hg,hX.step h2 hS hf hw⟩)
def tSeg(R:Fr)(T:Dic)(j i n:Nat)(st:St):Option St:=
 match R.fn.body with
 |some c=>match regOf j c with
   |some (.region _ ops _)=>tRun R.P R.C R.F T (R.F R.f).lits R.fn.ntmps ops i ((ops.toList.drop i).take n) (preDel ((ops.toList.drop i).take n) st) λ_ st1=>force st1 some
   |_=>none
 |none=>none
theorem ops_more{P:Program}{C:Cfg}{M:List Nat}{call:zcv}{N:Nat}{ops:Array Oper}{Q:Exit->Act->World->Prop}{rest:List Nat}(hcall:CallOK P call)(hN:N<=1000):∀(l:List Oper) (k:Nat) (st st':St) (rs:List Mk),runOps P C M call N ops k l st=some (rs,st')->(∀j o,l[j]?=some o->ops[k+j]?=some o)->∀(a:Act) (w:World),GoodF w0 S0 κ0 K N (fs st) a w->(∀a' w',GoodF w0 S0 κ0 K N (fs st') a' w'->wpOps P ops Q rest a' w')->wpOps P ops Q (List.range' k l.length++rest) a w
 |[],k,st,st',rs,h,_,a,w,hg,hQ=>by
   simp[runOps]at h
   simp_all
 |o::l,k,st,st',rs,h,hl,a,w,hg,hQ=>by
   simp only[runOps]at h
   cases hs:aStep P C M call N ops o st with
   |none=>simp[hs]at h
   |some q =>
     obtain⟨r,st1⟩:=q;simp only[hs]at h
     cases ho:runOps P C M call N ops (k+1) l st1 with
     |none=>simp[ho]at h
     |some q=>obtain⟨rs',st2⟩:=q;simp only[ho,zaf,zav]at h;obtain⟨_,rfl⟩:=h;obtain⟨e1,e2⟩:=zCY hs;rw[zcP,List.range'_succ,zgn,wpOps_cons];refine zwK hcall hN (hl 0 o rfl) e1 hg (λa' w' hg'=>?_);rw[<-e2]at hg';exact ops_more hcall hN l (k+1) st1 st2 rs' ho (λj o' hj=>by have:=hl (j+1) o' (by simpa using hj);grind) a' w' hg' hQ
theorem segP{R:Fr}{T:Dic}{j i n id:Nat}{ops:Array Oper}{draw:Bool}{c:Code}{X:Sat2}(hX:Stable X)(hb:R.fn.body=some c)(hN:R.fn.ntmps<=1000)(hr:regOf j c=some (.region id ops draw))(ht:tSeg R T j i n st=some st')(hin:i+n<=ops.size)
  (h:NowP w0 S0 κ0 K R.fn.ntmps X st a w) {Q:Exit->Act->World->Prop} {rest:List Nat} (hQ:∀a' w',NowP w0 S0 κ0 K R.fn.ntmps X st' a' w'->wpOps R.P ops Q rest a' w'):wpOps R.P ops Q (List.range' i n++rest) a w:=by
 obtain⟨S,κ,h1,h2⟩:=h;unfold tSeg at ht;simp only[hb,hr]at ht;obtain⟨rs,st1,hrun,hst⟩:=zuj _ _ _ _ _ ht;rw[zso]at hst;injection hst with hst;subst hst
 have hl:((ops.toList.drop i).take n).length=n:=by rw[zeC,zhQ];simp;omega
 have hp:GoodF w S κ (λb=>(look st.m b).isSome=true) R.fn.ntmps (fs (preDel ((ops.toList.drop i).take n) st)) a w:=GoodF.preDel _ st ⟨S,κ,Good.rebase h1⟩
 have:=ops_more (rest:=rest) (Q:=Q) (zuO (C:=R.C) (A:=R.F)) hN _ i _ _ rs hrun (λk o hk=>by
  grind) a w hp (λa' w' hg=>by
  obtain⟨S',κ',hg⟩:=hg;refine hQ a' w' ⟨S',κ',Good.join h1 hg,hX.step h2 hg.sup (λg hf=>hg.far hf) (λg hs=>hg.old g (h1.slt g hs) (λb c hl hk=>?_))⟩;obtain⟨ent,he⟩:=zaI.1 hl;have:=h1.ents b ent he;rw[hk]at this
  exact this.notS hs)
 simp_all
theorem getD_put{d:Nat}{y:Value}(hd:d<a.tmps.size)(k:Nat):(a.put (some d) y).tmps.getD k undef=if k=d then y else a.tmps.getD k undef:=by
 show(a.tmps.setIfInBounds d y).getD k undef=_;rw[zcH,zcH,Array.getElem?_setIfInBounds]
 grind
theorem GoodS.put(h:GoodS w0 S0 κ0 K N S κ st a w){d:Nat}(hd:d<N)(x:AV)(y:Value)(hx:VRel S κ (λb=>(look st.m b).isSome=true) w x y):GoodS w0 S0 κ0 K N S κ { st with t:=(d,x)::st.t } (a.put (some d) y) w:=
 { h with
   defers:=h.defers
   size:=by show(a.tmps.setIfInBounds d y).size=N;simp[h.size]
   slots:=λk=>by
    rw[getD_put (by rw[h.size];exact hd)];simp only[get];by_cases hk:k=d
    ·simp_all
    ·simp only[if_neg hk];exact h.slots k }
theorem GoodS.world(h:GoodS w0 S0 κ0 K N S κ st a w)(hos:w'.os=w.os)(htape:w'.tape=w.tape)(hout:OutD w w')(hsz:w.heap.size<=w'.heap.size)
  (hb:∀g,g<w.heap.size->¬(Far S κ (look st.m) w g/\Mine w0 κ0 K g)->w'.heap[g]?=w.heap[g]?):GoodS w0 S0 κ0 K N S κ st a w':=by
 have hS:∀g,S g->w'.heap[g]?=w.heap[g]?:=λg hg=>hb g (h.slt g hg) (λq=>q.1.2.1 hg)
 have hκ:∀b ent g c,look st.m b=some ent->κ b=some (g,c)->w'.heap[g]?=w.heap[g]?/\¬S g:=λb ent g c he hk=>by have hE:=h.ents b ent he;rw[hk]at hE;exact⟨hb g hE.lt (λq=>q.1.2.2 b c (by simp[he]) hk),hE.notS⟩
 exact{ h with
  os:=hos.trans h.os
  tape:=htape.trans h.tape
  output:=h.output.trans hout
  grow:=zbP h.grow hsz
  old:=λg hg hK=>by
   rw[hb g (zca hg h.grow) (λq=>?_)]
   ·exact h.old g hg hK
   · rcases q.2 with q|⟨b,c,_,q1,q2⟩
     ·omega
     ·exact hK b c q1 q2
  slt:=λg hg=>zca (h.slt g hg) hsz
  ents:=λb ent he=>(h.ents b ent he).mono (λ_ h=>h) hS (λ_ h=>h) (λ_ _=>rfl) (λg c hk=>hκ b ent g c he hk)
  slots:=λk=>(h.slots k).mono (λ_ h=>h) hS (λ_ h=>h) (λ_ _=>rfl) }
structure zwO(S:Nat->Prop)(w:World)(g:Nat)(es:List (List AV))(en:Array MapEntry)(clock:Nat):Prop where
 inS:S g
 at_:w.heap[g]?=some (.map en clock)
 len:en.size=es.length
 born:∀(i:Nat) (e:MapEntry),en[i]?=some e->e.born<clock
 incr:∀(i j:Nat) (e f:MapEntry),i<j->en[i]?=some e->en[j]?=some f->e.born<f.born
 two:∀cs∈es,∃k v,cs=[k,v]
 key:∀(i:Nat) (k v:AV) (e:MapEntry),es[i]?=some [k,v]->en[i]?=some e->CRel S w k e.key
 val:∀(i:Nat) (k v:AV) (e:MapEntry),es[i]?=some [k,v]->en[i]?=some e->CRel S w v e.val
theorem zwO.mono{g:Nat}{es:List (List AV)}{en:Array MapEntry}{clock:Nat}(h:zwO S w g es en clock)(hS:∀g,S g->S' g)(hw:∀g,S g->w'.heap[g]?=w.heap[g]?):zwO S' w' g es en clock where
 inS:=hS g h.inS
 at_:=(hw g h.inS).trans h.at_
 len:=h.len
 born:=h.born
 incr:=h.incr
 two:=h.two
 key:=λi k v e h1 h2=>(h.key i k v e h1 h2).mono hS hw
 val:=λi k v e h1 h2=>(h.val i k v e h1 h2).mono hS hw
def seenOf(en:Array MapEntry)(done:List Nat):Array Nat:=(done.map λj=>(en[j]?.map (·.born)).getD 0).toArray
structure Rng(w0:World)(κ0:Kap)(K:Nat->Prop)(r g:Nat)(es:List (List AV))(en:Array MapEntry)(clock:Nat)(done:List Nat)(S:Nat->Prop)(κ:Kap)(L:Nat->Option Ent)(w:World):Prop where
 held:zwO S w g es en clock
 far:Far S κ L w r
 mine:Mine w0 κ0 K r
 iter:w.heap[r]?=some (.mapIter (some g) clock (seenOf en done) clock)
 nodup:done.Nodup
 lt:∀j∈done,j<en.size
theorem Rng.stable{r g:Nat}{es:List (List AV)}{en:Array MapEntry}{clock:Nat}{done:List Nat}:Stable (Rng w0 κ0 K r g es en clock done) where
 step:=λh hS hf hw=>⟨h.held.mono hS hw,(hf r h.far).2,h.mine,(hf r h.far).1.trans h.iter,h.nodup,h.lt⟩
 kap:=λh hk=>⟨h.held,⟨h.far.1,h.far.2.1,λb c hl hkb=>by
  obtain⟨b0,c0,q1,q2⟩:=hk b r c hl hkb
  exact h.far.2.2 b0 c0 q1 q2⟩,h.mine,h.iter,h.nodup,h.lt⟩
theorem zFp{en:Array MapEntry}{done:List Nat}(hi:∀(i j:Nat) (e f:MapEntry),i<j->en[i]?=some e->en[j]?=some f->e.born<f.born)(hl:∀j∈done,j<en.size){j:Nat}{e:MapEntry}(he:en[j]?=some e):(seenOf en done).contains e.born=true↔j∈done:=by
 unfold seenOf
 grind
theorem zCH{en:Array MapEntry}{done:List Nat}{j:Nat}{e:MapEntry}(he:en[j]?=some e):seenOf en (done++[j])=(seenOf en done).push e.born:=by
 unfold seenOf
 simp_all
theorem zo9{P:Program}{ops:Array Oper}{Q:Exit->Act->World->Prop}{i:Nat}{o:Oper}{K':Act->World->Prop}{y:Value}(hi:ops[i]?=some o)(hg:o.guard=none)(hx:(execOp a.eval o).run P w=.ok (.value y) w')(hK:K' (a.put o.dst y) w'):wpOp P ops Q i K' a w:=by unfold wpOp;simp only[hi];rw[if_pos (by unfold Region.wanted;rw[hg])];left;unfold Oper.wp;rw[hx];exact hK
def opIs(ops:Array Oper)(i d:Nat)(op:Op):Prop:=(ops[i]?).map (λo=>(o.dst,o.op,o.guard))=some (some d,op,none)
theorem opIs.get{ops:Array Oper}{i d:Nat}{op:Op}(h:opIs ops i d op):∃o,ops[i]?=some o/\o.dst=some d/\o.op=op/\o.guard=none:=by
 unfold opIs at h
 simp_all
theorem zDU{P:Program}{ops:Array Oper}{Q:Exit->Act->World->Prop}{i d m:Nat}{t k e:TypeId}{es:List (List AV)}{K':Act->World->Prop}(ho:opIs ops i d (.range t (.tmp m)))(ht:P.underlying t=some (.map k e))(hd:d<N)
  (h:NowP w0 S0 κ0 K N (λ_ _ _ _=>True) st a w) (hm:get st.t m=.mp es)
  (hK:∀a' w' r g en clock,NowP w0 S0 κ0 K N (Rng w0 κ0 K r g es en clock []) { st with t:=(d,.v (.pointer (some ⟨r,0,none⟩)))::st.t } a' w'->K' a' w'):wpOp P ops Q i K' a w:=by
 obtain⟨S,κ,h1,_⟩:=h;obtain⟨o,o1,o2,o3,o4⟩:=ho.get;have hv:=h1.slots m;rw[hm]at hv;have hc:=hv.mp_inv;generalize hy:a.tmps.getD m undef=y at hc
 cases hc with
 |mp _ g en clock hS hg hlen hb hi h2 hk hv =>
   have hrun:(execOp a.eval o).run P w=.ok (.value (.pointer (some ⟨w.heap.size,0,none⟩))) (w.alloc (.mapIter (some g) clock #[] clock)):=by have:a.eval (.tmp m)=.map (some g):=hy;simp[execOp,o3,this,run_range_map w t k e g en clock ht hg]
   refine zo9 o1 o4 hrun ?_;rw[o2]
   have hw:GoodS w0 S0 κ0 K N S κ st a (w.alloc (.mapIter (some g) clock #[] clock)):=h1.world rfl rfl .of (by simp_all) (λq hq _=>by
    show(w.heap.push _)[q]?=_
    grind)
   have hS':∀q,S q->(w.alloc (.mapIter (some g) clock #[] clock)).heap[q]?=w.heap[q]?:=λq hq=>by
    show(w.heap.push _)[q]?=_;have:=h1.slt q hq
    grind
   refine hK _ _ w.heap.size g en clock ⟨S,κ,hw.put hd _ _ (.c (.v _)),?_⟩;refine⟨zwO.mono ⟨hS,hg,hlen,hb,hi,h2,hk,hv⟩ (λ_ h=>h) hS',⟨by simp_all,λhs=>by have:=h1.slt _ hs;omega,λb c hl hk=>?_⟩,.inl h1.grow,heap_alloc_new w _,zit,λj hj=>by cases hj⟩;obtain⟨ent,he⟩:=zaI.1 hl;have hE:=h1.ents b ent he;rw[hk]at hE;have:=hE.lt;omega
theorem zH5{w1:World}{r:Nat}{o:Obj}{g:Nat}(h:g≠r):(setBlock w1 r o).heap[g]?=w1.heap[g]?:=by
 show(w1.heap.setIfInBounds r o)[g]?=_
 grind
theorem zKn{w1:World}{r:Nat}{o:Obj}(h:r<w1.heap.size):(setBlock w1 r o).heap[r]?=some o:=by
 show(w1.heap.setIfInBounds r o)[r]?=_
 simp_all
theorem next_op{P:Program}{ops:Array Oper}{Q:Exit->Act->World->Prop}{i d it r g:Nat}{es:List (List AV)}{en:Array MapEntry}{clock:Nat}{done:List Nat}{K':Act->World->Prop}(ho:opIs ops i d (.next (.tmp it) false))(hd:d<N)
  (h:NowP w0 S0 κ0 K N (Rng w0 κ0 K r g es en clock done) st a w) (hm:get st.t it=.v (.pointer (some ⟨r,0,none⟩)))
  (hend:(∀j,j<es.length->j∈done)->∀a' w',NowP w0 S0 κ0 K N (Rng w0 κ0 K r g es en clock done) { st with t:=(d,.tup [.v (.bool false)])::st.t } a' w'->K' a' w')
  (hK:∀j k v,j<es.length->j ∉ done->es[j]?=some [k,v]->∀a' w',NowP w0 S0 κ0 K N (Rng w0 κ0 K r g es en clock (done++[j])) { st with t:=(d,.tup [.v (.bool true),k,v])::st.t } a' w'->K' a' w'):wpOp P ops Q i K' a w:=by
 obtain⟨S,κ,h1,h2⟩:=h;obtain⟨o,o1,o2,o3,o4⟩:=ho.get;have hv:=h1.slots it;rw[hm]at hv;have hy:a.eval (.tmp it)=.pointer (some ⟨r,0,none⟩):=hv.v_inv
 have hnext:=run_next_at (P:=P) w o.type r g clock clock (seenOf en done) en clock h2.iter h2.held.at_ (λx hx=>by
  obtain⟨j,hj⟩:=zcG.1 hx
  exact h2.held.born j x (by simpa using hj)) (zaX _)
 rcases hnext with⟨hsz,hrun⟩|⟨e,he,w1,hw1,hrun⟩
 · refine zo9 (w':=w) (y:=.tuple #[.bool false]) o1 o4 (by simp[execOp,o3,hy,hrun]) ?_;rw[o2];refine hend (λj hj=>?_) _ _ ⟨S,κ,h1.put hd _ _ (.c (.tup _ _ rfl (λj c x hj hx=>?_))),h2⟩
   · have hj':j<en.size:=by rw[h2.held.len];exact hj
     have hget:=zaU hj';refine(zFp h2.held.incr h2.lt hget).1 ?_
     cases hc:(seenOf en done).contains en[j].born with
     |true=>rfl
     |false =>
       have:en[j]∈leftOf en (seenOf en done):=by unfold leftOf;exact Array.mem_filter.2 ⟨zfc hj',by rw[hc];rfl⟩
       simp_all
   · match j with
     |0=>simp at hj hx;subst hj;subst hx;exact .v _
     |j+1=>simp at hj
 · have hmem:e∈en/\(seenOf en done).contains e.born=false:=by unfold leftOf at he;have:=Array.mem_filter.1 (zbU.1 he);exact⟨this.1,by simpa using this.2⟩
   obtain⟨j,hj⟩:=zfs.1 hmem.1;have hjl:j<en.size:=(zcM.1 hj).1
   have hjd:j ∉ done:=λhq=>by
    have:=(zFp h2.held.incr h2.lt hj).2 hq
    simp_all
   obtain⟨k,v,hkv⟩:∃k v,es[j]?=some [k,v]:=by
    have hl:j<es.length:=by rw[<-h2.held.len];exact hjl
    obtain⟨k,v,e⟩:=h2.held.two es[j] (zar hl)
    simp_all
   have hh1:w1.heap=w.heap/\w1.os=w.os/\w1.tape=w.tape/\OutD w w1:=by
    rcases hw1 with rfl|rfl
    ·exact⟨rfl,rfl,rfl,.of⟩
    ·exact⟨rfl,rfl,rfl,.of⟩
   obtain⟨hh,ho1,ho2,ho3⟩:=hh1;refine zo9 (w':=setBlock w1 r (.mapIter (some g) clock ((seenOf en done).push e.born) clock)) (y:=.tuple #[.bool true,e.key,e.val]) o1 o4 (by simp[execOp,o3,hy,hrun]) ?_;rw[o2];have hsame:∀q,q≠r->(setBlock w1 r (.mapIter (some g) clock ((seenOf en done).push e.born) clock)).heap[q]?=w.heap[q]?:=λq hq=>by rw[zH5 hq,hh]
   have hSr:∀q,S q->q≠r:=λq hq e=>h2.far.2.1 (e▸hq)
   have hsize:(setBlock w1 r (.mapIter (some g) clock ((seenOf en done).push e.born) clock)).heap.size=w.heap.size:=by
    show(w1.heap.setIfInBounds r _).size=_
    simp_all
   have hw:GoodS w0 S0 κ0 K N S κ st a (setBlock w1 r (.mapIter (some g) clock ((seenOf en done).push e.born) clock)):=h1.world ho1 ho2 ho3 (by omega) (λq _ hq=>by
    by_cases hqr:q=r
    ·subst hqr;exact absurd ⟨h2.far,h2.mine⟩ hq
    ·exact hsame q hqr)
   have hheld:=h2.held.mono (λ_ h=>h) (λq hq=>hsame q (hSr q hq));refine hK j k v (by grind) hjd hkv _ _ ⟨S,κ,hw.put hd _ _ (.c (.tup _ _ rfl (λi c x hi hx=>?_))),hheld,⟨by rw[hsize];exact h2.far.1,h2.far.2⟩,h2.mine,?_,?_,?_⟩
   · match i with
     |0=>simp at hi hx;subst hi;subst hx;exact .v _
     |1=>simp at hi hx;subst hi;subst hx;exact hheld.key j _ v e hkv hj
     |2=>simp at hi hx;subst hi;subst hx;exact hheld.val j k _ e hkv hj
     |i+3=>simp at hi
   ·rw[zKn (by rw[hh];exact h2.far.1),zCH hj]
   ·rw[zjz];exact⟨h2.nodup,by simp,λx hx y hy e=>by simp_all⟩
   · intro x hx;rcases zbh.1 hx with h|h
     ·exact h2.lt x h
     simp_all
theorem zDD{P:Program}{ops:Array Oper}{Q:Exit->Act->World->Prop}{i d it r g j:Nat}{es:List (List AV)}{en:Array MapEntry}{clock:Nat}{done:List Nat}{k v:AV}{K':Act->World->Prop}(ho:opIs ops i d (.entry (.tmp it)))(hd:d<N)
  (h:NowP w0 S0 κ0 K N (Rng w0 κ0 K r g es en clock (done++[j])) st a w) (hm:get st.t it=.v (.pointer (some ⟨r,0,none⟩))) (hj:es[j]?=some [k,v])
  (hK:∀a' w',NowP w0 S0 κ0 K N (Rng w0 κ0 K r g es en clock (done++[j])) { st with t:=(d,.tup [k,v])::st.t } a' w'->K' a' w'):wpOp P ops Q i K' a w:=by
 obtain⟨S,κ,h1,h2⟩:=h;obtain⟨o,o1,o2,o3,o4⟩:=ho.get;have hv:=h1.slots it;rw[hm]at hv;have hy:a.eval (.tmp it)=.pointer (some ⟨r,0,none⟩):=hv.v_inv;have hjl:j<en.size:=h2.lt j (by simp);have hje:=zaU hjl;have hit:=h2.iter;rw[zCH hje]at hit
 have hnd:(en.toList.map (·.born)).Nodup:=by rw[List.nodup_iff_pairwise_ne,zcj];intro p q hp hq hpq;simp only[zad,zc2]at hp hq;have:=h2.held.incr p q en[p] en[q] hpq (zaU hp) (zaU hq);simp;omega
 have hrun:=run_entry_at (P:=P) w r g clock (seenOf en done) en clock en[j] hit h2.held.at_ (by simp) hnd;refine zo9 (w':=w) (y:=.tuple #[en[j].key,en[j].val]) o1 o4 (by simp[execOp,o3,hy,hrun]) ?_;rw[o2];refine hK _ _ ⟨S,κ,h1.put hd _ _ (.c (.tup _ _ rfl (λi c x hi hx=>?_))),h2⟩
 match i with
 |0=>simp at hi hx;subst hi;subst hx;exact h2.held.key j _ v _ hj hje
 |1=>simp at hi hx;subst hi;subst hx;exact h2.held.val j k _ _ hj hje
 |i+2=>simp at hi
theorem zFa{P:Program}{ops:Array Oper}{Q:Exit->Act->World->Prop}{i d s n:Nat}{vs:List AV}{x:AV}{X:Sat2}{K':Act->World->Prop}(ho:opIs ops i d (.extract (.tmp s) n))(hd:d<N)
  (h:NowP w0 S0 κ0 K N X st a w) (hm:get st.t s=.tup vs) (hx:vs[n]?=some x)
  (hK:∀a',NowP w0 S0 κ0 K N X { st with t:=(d,x)::st.t } a' w->K' a' w):wpOp P ops Q i K' a w:=by
 obtain⟨S,κ,h1,h2⟩:=h;obtain⟨o,o1,o2,o3,o4⟩:=ho.get;have hv:=h1.slots s;rw[hm]at hv;obtain⟨arr,he,hsz,hvs⟩:=hv.tup_inv
 have hlt:n<arr.size:=by have:=(zam.1 hx).1;omega
 refine zo9 (w':=w) (y:=arr[n]) o1 o4 ?_ ?_
 ·have he':a.eval (.tmp s)=.tuple arr:=he;simp[execOp,o3,he',Instr.extract,hlt]
 ·rw[o2];exact hK _ ⟨S,κ,h1.put hd _ _ (hvs n x _ hx (zaU hlt)),h2⟩
theorem NowP.freeze{X:Sat2}(hX:Stable X)(h:NowP w0 S0 κ0 K N X st a w)(hN:N<=1000)(bs:List Nat)(hb:bs.all (λb=>decide (b<1000)&&(look st.m b).isSome)=true)(e:zeH bs st=st'):NowP w0 S0 κ0 K N X st' a w:=by
 obtain⟨S,κ,h1,h2⟩:=h;have hp:GoodF w S κ (λb=>(look st.m b).isSome=true) N (fs st) a w:=⟨S,κ,Good.rebase h1⟩
 obtain⟨S',κ',hg⟩:=zxj hp hN (bs:=bs) (λb hm=>by simp_all)
 subst e;refine⟨S',κ',Good.join h1 hg,hX.step h2 hg.sup (λg hf=>hg.far hf) (λ_ _=>rfl)⟩
theorem NowP.drop{X:Sat2}(h:NowP w0 S0 κ0 K N X st a w):NowP w0 S0 κ0 K N (λ_ _ _ _=>True) st a w:=by obtain⟨S,κ,h1,_⟩:=h;exact⟨S,κ,h1,trivial⟩
def seenN(w:World)(r:Nat):Nat:=match w.heap[r]? with
 |some (.mapIter _ _ s _)=>s.size
 |_=>0
theorem Rng.seen{r g:Nat}{es:List (List AV)}{en:Array MapEntry}{clock:Nat}{done:List Nat}{L:Nat->Option Ent}(h:Rng w0 κ0 K r g es en clock done S κ L w):seenN w r=done.length:=by unfold seenN;rw[h.iter];simp[seenOf]
theorem zvQ{n:Nat}{l:List Nat}(hd:l.Nodup)(hl:∀j∈l,j<n):l.length<=n:=by
 induction n generalizing l with
 |zero =>
   cases l with
   |nil=>simp
   |cons j r=>exact absurd (hl j (by simp)) (by omega)
 |succ n ih =>
   have h1:=ih (l:=l.erase n) (hd.erase n) (λj hj=>by grind)
   grind
theorem zDW{P:Program}{bl id:Nat}{ops:Array Oper}{BODY:Code}{it d1 d2 r g:Nat}{es:List (List AV)}{en:Array MapEntry}{clock:Nat}{stf:List Nat->St}(ks:List Nat)
  (hsz:ops.size=2) (o0:opIs ops 0 d1 (.next (.tmp it) false)) (o1:opIs ops 1 d2 (.extract (.tmp d1) 0)) (hd1:d1<N) (hd2:d2<N)
  (hit:∀done,get (stf done).t it=.v (.pointer (some ⟨r,0,none⟩)))
  (htrim:∀done x y,trim ks [] { stf done with t:=(d2,y)::(d1,x)::(stf done).t }=stf done)
  (hbody:∀done j k v,done.Nodup->(∀i∈done,i<es.length)->j ∉ done->es[j]?=some [k,v]->∀a w,NowP w0 S0 κ0 K N (Rng w0 κ0 K r g es en clock (done++[j])) (stf done) a w->BODY.wp P (λe a' w'=>e=.normal/\NowP w0 S0 κ0 K N (Rng w0 κ0 K r g es en clock (done++[j])) (stf (done++[j])) a' w') a w)
  (h:NowP w0 S0 κ0 K N (Rng w0 κ0 K r g es en clock []) (stf []) a w) {Q:Exit->Act->World->Prop}
  (hQ:∀done,done.Nodup->(∀i∈done,i<es.length)->(∀i,i<es.length->i∈done)->∀a' w',NowP w0 S0 κ0 K N (Rng w0 κ0 K r g es en clock done) (stf done) a' w'->Q .normal a' w'):(Code.block bl (.loop (.seq (.region id ops false) (.seq (.cond (.tmp d2) .skip (.exit bl)) BODY)))).wp P Q a w:=by
 refine wp_block (wp_loop (λa w=>∃done,NowP w0 S0 κ0 K N (Rng w0 κ0 K r g es en clock done) (stf done) a w) (λ_ w=>es.length-seenN w r) ⟨[],h⟩ ?_)
 rintro a w ⟨done,hn⟩
 have hprop:done.Nodup/\(∀i∈done,i<es.length)/\seenN w r=done.length:=by obtain⟨S,κ,_,hr⟩:=hn;exact⟨hr.nodup,λi hi=>by rw[<-hr.held.len];exact hr.lt i hi,hr.seen⟩
 obtain⟨p1,p2,p3⟩:=hprop;refine wp_seq (wp_region ?_);rw[hsz];rw[show List.range 2=[0,1]from rfl,wpOps_cons];refine next_op o0 hd1 hn (hit done) (λhall a1 w1 h1=>?_) (λj k v hj hjd hkv a1 w1 h1=>?_)
 ·rw[wpOps_cons];refine zFa (x:=.v (.bool false)) (vs:=[.v (.bool false)]) o1 hd2 h1 (by simp[get]) rfl (λa2 h2=>?_);refine wp_seq (wp_cond (h2.bool (b:=false) (by simp[get])) ?_);rw[if_neg (by simp)];refine wp_exit ?_;have:=hQ done p1 p2 hall a2 w1 (h2.trim Rng.stable ks [] (htrim done _ _));simpa[Exit.then,Exit.inBlock]using this
 · rw[wpOps_cons];refine zFa (x:=.v (.bool true)) (vs:=[.v (.bool true),k,v]) o1 hd2 h1 (by simp[get]) rfl (λa2 h2=>?_);refine wp_seq (wp_cond (h2.bool (b:=true) (by simp[get])) ?_);rw[if_pos rfl];refine wp_skip ?_;refine wp_mono (hbody done j k v p1 p2 hjd hkv a2 w1 (h2.trim Rng.stable ks [] (htrim done _ _))) ?_
   rintro e a3 w3 ⟨rfl,h3⟩
   refine⟨⟨_,h3⟩,?_⟩;obtain⟨S,κ,_,hr⟩:=h3;have e3:seenN w3 r=done.length+1:=by rw[hr.seen];simp
   have hle:done.length+1<=es.length:=by have:=zvQ hr.nodup (n:=es.length) (λi hi=>by grind);simpa using this
   omega
end
end Go.Ab
namespace Go.Ab
open Go.RowKit
variable[Dr]
section
variable{w0:World}{S0:Nat->Prop}{κ0:Kap}{K:Nat->Prop}{N:Nat}{S S':Nat->Prop}{κ κd κ2:Kap}{a a':Act}{w w':World}{st:St}{t:Tab}{m mr mr':Mem}{B:Nat}{e0 e0':Ent}
def lentK(κ κd:Kap)(mr:Mem)(B:Nat):Kap:=λb=>if b=B+1000 then κd B else if(look mr b).isSome=true then κd b else κ b
def lentM(e0:Ent)(mr m:Mem)(B:Nat):Mem:=((B+1000,e0)::mr)++m
theorem zFl{b:Nat}(h:(look (lentM e0 mr m B) b).isSome=true):(b=B+1000/\look (lentM e0 mr m B) b=some e0/\lentK κ κd mr B b=κd B)\/(b≠B+1000/\(look mr b).isSome=true/\look (lentM e0 mr m B) b=look mr b/\lentK κ κd mr B b=κd b)\/(b≠B+1000/\¬(look mr b).isSome=true/\(look m b).isSome=true/\look (lentM e0 mr m B) b=look m b/\lentK κ κd mr B b=κ b):=by
 unfold lentM at h ⊢;rw[zsr]at h ⊢;unfold lentK;simp only[look]at h ⊢
 grind
theorem look_two{b:Nat}(hb:(look ((B,e0)::mr) b).isSome=true):b=B\/(look mr b).isSome=true:=by
 simp only[look]at hb
 grind
theorem GoodS.lend(h:GoodS w0 S0 κ0 K N S κ ⟨t,m⟩ a w)(hF:FarObj S w κd (look ((B,e0)::mr)))
  (hfar:∀b g c,(look ((B,e0)::mr) b).isSome=true->κd b=some (g,c)->Far S κ (look m) w g) (hmr:∀b,(look mr b).isSome=true->b<1000/\b≠B/\look m b=none) (hm:∀b,(look m b).isSome=true->b<1000)
  (ho:∀b ent,look ((B,e0)::mr) b=some ent->ent.box=true->∀cs∈ent.es,∀x∈cs,only (mr.map (·.1)) x=true) {k0 z g c:Nat} (hk0:a.tmps.getD k0 undef=.pointer (some ⟨g,0,none⟩)) (hκ:κd B=some (g,c)):GoodS w S (lentK κ κd mr B) (λb=>(look (lentM e0 mr m B) b).isSome=true) N S (lentK κ κd mr B) ⟨(k0,.loc (B+1000) z 0 0)::t,lentM e0 mr m B⟩ a w:=by
 have hcase:=@zFl _ κ κd m mr B e0;have hB0:(look ((B,e0)::mr) B).isSome=true:=by simp[look]
 have hmd:∀b,(look mr b).isSome=true->(look ((B,e0)::mr) b).isSome=true:=λb hb=>by
  simp only[look]
  simp_all
 have hin:∀b,(look mr b).isSome=true->(look (lentM e0 mr m B) b).isSome=true/\lentK κ κd mr B b=κd b:=λb hb=>by
  have hne:b≠B+1000:=by have:=(hmr b hb).1;omega
  unfold lentM lentK;rw[zsr];simp[look,hne,hb]
 have hnr:∀b,(look m b).isSome=true->¬(look mr b).isSome=true:=λb hb hr=>by simp_all
 have hin2:∀b,(look m b).isSome=true->(look (lentM e0 mr m B) b).isSome=true/\lentK κ κd mr B b=κ b:=λb hb=>by
  have hne:b≠B+1000:=by have:=hm b hb;omega
  have:=hnr b hb;unfold lentM lentK;rw[zsr]
  grind
 have desk:∀b ent,look ((B,e0)::mr) b=some ent->EntAt S (lentK κ κd mr B) (λb=>(look (lentM e0 mr m B) b).isSome=true) w (κd b) ent:=λb ent hb=>by
  have hE:=hF.ents b ent hb
  have h1:EntAt S κd (λb=>(look mr b).isSome=true) w (κd b) ent:=zyo hE (λ_ h=>h) (λg c hk=>by rw[hk]at hE;exact hE.notS) (λhbx cs hcs x hx v hv=>zyD (λb hb=>zi5 (by simpa[ids]using hb)) (ho b ent hb hbx cs hcs x hx) hv)
  exact h1.mono (λ_ h=>h) (λ_ _=>rfl) (λb hb=>(hin b hb).1) (λb hb=>(hin b hb).2) (λg c hk=>⟨rfl,by rw[hk]at hE;exact hE.notS⟩)
 have hold:∀b,(look (lentM e0 mr m B) b).isSome=true->(∃bd,(look ((B,e0)::mr) bd).isSome=true/\lentK κ κd mr B b=κd bd/\((b=B+1000/\bd=B)\/(b≠B+1000/\bd=b/\(look mr b).isSome=true)))\/((look m b).isSome=true/\lentK κ κd mr B b=κ b):=λb hb=>by grind
 exact{
  defers:=h.defers
  size:=h.size
  os:=rfl
  tape:=rfl
  output:=.of
  grow:=zaX _
  old:=λ_ _ _=>rfl
  sup:=λ_ h=>h
  snew:=λ_ h=>.inl h
  slt:=h.slt
  par:=λ_ _=>rfl
  parK:=λ_ _ h=>h
  own:=λb g c hb hl hk=>.inr ⟨b,c,hb,hl,hk⟩
  inj:=λb b' g c c' hl hl' hk hk'=>by
   rcases hold b hl with⟨bd,d1,d2,d3⟩|⟨d1,d2⟩
   · rw[d2]at hk;rcases hold b' hl' with⟨bd',d1',d2',d3'⟩|⟨d1',d2'⟩
     · rw[d2']at hk';have:=hF.inj bd bd' g c c' d1 d1' hk hk'
       grind
     ·rw[d2']at hk';exact absurd hk' ((hfar bd g c d1 hk).2.2 b' c' d1')
   · rw[d2]at hk;rcases hold b' hl' with⟨bd',d1',d2',_⟩|⟨d1',d2'⟩
     ·rw[d2']at hk';exact absurd hk ((hfar bd' g c' d1' hk').2.2 b c d1)
     ·rw[d2']at hk';exact h.inj b b' g c c' d1 d1' hk hk'
  ents:=λb ent hb=>by
   have hbs:(look (lentM e0 mr m B) b).isSome=true:=by rw[show look (lentM e0 mr m B) b=some ent from hb];rfl
   rcases hcase hbs with⟨q1,q2,q3⟩|⟨q1,q2,q3,q4⟩|⟨q1,q2,q3,q4,q5⟩
   ·rw[q3];rw[q2]at hb;injection hb with hb;subst hb;exact desk B e0 (by simp[look])
   ·rw[q4];rw[q3]at hb;exact desk b ent (by simp only[look];simp_all)
   ·rw[q5];rw[q4]at hb;have hE:=h.ents b ent hb;exact hE.mono (λ_ h=>h) (λ_ _=>rfl) (λb hb=>(hin2 b hb).1) (λb hb=>(hin2 b hb).2) (λg c hk=>⟨rfl,by rw[hk]at hE;exact hE.notS⟩)
  slots:=λk=>by
   simp only[get];split
   ·rename_i e;subst e;rw[hk0];have:=VRel.loc (S:=S) (κ:=lentK κ κd mr B) (D:=λb=>(look (lentM e0 mr m B) b).isSome=true) (w:=w) (B+1000) z 0 0 g c (by unfold lentM;rw[zsr];simp[look]) (by unfold lentK;simp[hκ]);simpa using this
   ·exact(h.slots k).mono (λ_ h=>h) (λ_ _=>rfl) (λb hb=>(hin2 b hb).1) (λb hb=>(hin2 b hb).2) }
def backK(κ0 κ2:Kap):Kap:=λb=>if b<1000 then κ2 b else κ0 b
def homeK(κd κ2:Kap)(B:Nat):Kap:=λb=>if b=B then κd B else κ2 b
theorem lent_back{i:Nat}{M:Nat->Option Mem}{κs:Nat->Kap}(h:GoodS w0 S0 κ0 K N S κ ⟨t,m⟩ a w)(ho:Objs w0 κ0 K S κ (look m) w M κs)(hi:M i=some ((B,e0)::mr))(hmr:∀b,(look mr b).isSome=true->b<1000/\b≠B/\look m b=none)
  (hm:∀b,(look m b).isSome=true->b<1000) {st2:St} (h2:GoodS w S (lentK κ (κs i) mr B) (λb=>(look (lentM e0 mr m B) b).isSome=true) N S' κ2 st2 a' w')
  (hd:∀b ent,look ((B+1000,e0')::mr') b=some ent->look st2.m b=some ent) (hmr':∀b,(look mr' b).isSome=true->b<1000/\b≠B)
  (honly:∀b ent,look ((B+1000,e0')::mr') b=some ent->ent.box=true->∀cs∈ent.es,∀x∈cs,only (mr'.map (·.1)) x=true) {stN:St} (ks drop:List Nat) (e:trim ks drop st2=stN)
  (hN:∀b,(look stN.m b).isSome=true->(look st2.m b).isSome=true/\¬(look ((B+1000,e0')::mr') b).isSome=true/\b<1000):GoodS w0 S0 κ0 K N S' (backK κ0 κ2) stN a' w'/\Objs w0 κ0 K S' (backK κ0 κ2) (look stN.m) w' (λj=>if j=i then some ((B,e0')::mr')else M j) (λj=>if j=i then homeK (κs i) κ2 B else κs j):=by
 have hcase:=@zFl _ κ (κs i) m mr B e0
 have hmd:∀b,(look mr b).isSome=true->(look ((B,e0)::mr) b).isSome=true:=λb hb=>by
  simp only[look]
  simp_all
 have hmine:∀b g c,(look (lentM e0 mr m B) b).isSome=true->lentK κ (κs i) mr B b=some (g,c)->Mine w0 κ0 K g:=λb g c hb hk=>by
  rcases hcase hb with⟨q1,_,q3⟩|⟨q1,q2,_,q4⟩|⟨q1,_,q3,_,q5⟩
  ·rw[q3]at hk;exact(ho.far i _ B g c hi (by simp[look]) hk).2
  ·rw[q4]at hk;exact(ho.far i _ b g c hi (hmd b q2) hk).2
  ·rw[q5]at hk;exact h.own b g c (hm b q3) q3 hk
 have hM2:∀g,Mine w (lentK κ (κs i) mr B) (λb=>(look (lentM e0 mr m B) b).isSome=true) g->Mine w0 κ0 K g:=λg hg=>by
  rcases hg with hg|⟨b,c,_,hb,hk⟩
  ·exact .inl (zbP h.grow hg)
  grind
 have hpar:κ2 (B+1000)=κs i B:=by have:=h2.par (B+1000) (by omega);rw[this];unfold lentK;simp
 have h3:=h2.trim ks drop;rw[e]at h3
 have hother:∀j mj b g c,j≠i->M j=some mj->(look mj b).isSome=true->κs j b=some (g,c)->w'.heap[g]?=w.heap[g]?/\g<w.heap.size/\¬S' g/\¬Mine w (lentK κ (κs i) mr B) (λb=>(look (lentM e0 mr m B) b).isSome=true) g:=λj mj b g c hj hM hb hk=>by
  obtain⟨⟨f1,f2,f3⟩,_⟩:=ho.far j mj b g c hM hb hk
  have hno:∀b' c',(look (lentM e0 mr m B) b').isSome=true->lentK κ (κs i) mr B b'≠some (g,c'):=λb' c' hb' hk'=>by
   rcases hcase hb' with⟨q1,_,q3⟩|⟨q1,q2,_,q4⟩|⟨q1,_,q3,_,q5⟩
   ·rw[q3]at hk';exact hj (ho.dis j i mj _ b B g c c' hM hi hb (by simp[look]) hk hk')
   ·rw[q4]at hk';exact hj (ho.dis j i mj _ b b' g c c' hM hi hb (hmd b' q2) hk hk')
   simp_all
  have hnm:¬Mine w (lentK κ (κs i) mr B) (λb=>(look (lentM e0 mr m B) b).isSome=true) g:=λhg=>by
   rcases hg with hg|⟨b',c',_,hb',hk'⟩
   ·omega
   simp_all
  refine⟨h2.old g f1 hno,f1,λhs=>?_,hnm⟩;rcases h2.snew g hs with q|q
  ·exact f2 q
  ·exact hnm q
 have hnear:∀b g c,(look stN.m b).isSome=true->backK κ0 κ2 b=some (g,c)->κ2 b=some (g,c)/\Mine w (lentK κ (κs i) mr B) (λb=>(look (lentM e0 mr m B) b).isSome=true) g:=λb g c hb hk=>by obtain⟨q1,_,q3⟩:=hN b hb;unfold backK at hk;rw[if_pos q3]at hk;exact⟨hk,h2.own b g c q3 q1 hk⟩
 have hκ:∀b,(look stN.m b).isSome=true->backK κ0 κ2 b=κ2 b:=λb hb=>by
  unfold backK
  grind
 have hgood:GoodS w0 S0 κ0 K N S' (backK κ0 κ2) stN a' w':={
  defers:=h2.defers
  size:=h2.size
  os:=h2.os.trans h.os
  tape:=h2.tape.trans h.tape
  output:=h.output.trans h2.output
  grow:=zbP h.grow h2.grow
  old:=λg hg hK=>by
   rw[h2.old g (zca hg h.grow) ?_]
   ·exact h.old g hg hK
   · intro b c hb hk;rcases hmine b g c hb hk with q|⟨b',c',_,q2,q3⟩
     ·omega
     grind
  sup:=λg hg=>h2.sup g (h.sup g hg)
  snew:=λg hg=>by
   rcases h2.snew g hg with q|q
   ·exact h.snew g q
   grind
  slt:=h2.slt
  par:=λb hb=>by unfold backK;rw[if_neg (by omega)]
  parK:=λb hb hl=>by grind
  own:=λb g c _ hl hk=>hM2 g (hnear b g c hl hk).2
  inj:=λb b' g c c' hl hl' hk hk'=>h2.inj b b' g c c' (hN b hl).1 (hN b' hl').1 (hnear b g c hl hk).1 (hnear b' g c' hl' hk').1
  ents:=λb ent hb=>by
   have hbs:(look stN.m b).isSome=true:=by simp[hb]
   rw[hκ b hbs];have hE:=h3.ents b ent hb;exact hE.mono (λ_ h=>h) (λ_ _=>rfl) (λ_ h=>h) hκ (λg c hk=>⟨rfl,by rw[hk]at hE;exact hE.notS⟩)
  slots:=λk=>(h3.slots k).mono (λ_ h=>h) (λ_ _=>rfl) (λ_ h=>h) hκ }
 have hB1:look ((B+1000,e0')::mr') (B+1000)=some e0':=by simp[look]
 have hr1:∀b,(look mr' b).isSome=true->look ((B+1000,e0')::mr') b=look mr' b/\homeK (κs i) κ2 B b=κ2 b:=λb hb=>by
  obtain⟨q1,q2⟩:=hmr' b hb;unfold homeK;simp only[look]
  grind
 have name:∀b ent,look ((B,e0')::mr') b=some ent->∃b2,look ((B+1000,e0')::mr') b2=some ent/\homeK (κs i) κ2 B b=κ2 b2/\((b=B/\b2=B+1000)\/(b2=b/\(look mr' b).isSome=true)):=λb ent hb=>by
  simp only[look]at hb;split at hb
  ·rename_i hbB;injection hb with hb;subst hb;refine⟨B+1000,hB1,?_,.inl ⟨hbB,rfl⟩⟩;unfold homeK;rw[if_pos hbB,hpar]
  simp_all
 have sees:∀b2 ent,look ((B+1000,e0')::mr') b2=some ent->(look st2.m b2).isSome=true:=λb2 ent hb=>by simp[hd b2 ent hb]
 have hobj:FarObj S' w' (homeK (κs i) κ2 B) (look ((B,e0')::mr')):=⟨λb ent hb=>by
  obtain⟨b2,n1,n2,n3⟩:=name b ent hb;have hE:=h2.ents b2 ent (hd b2 ent n1);rw[n2]
  have h1:EntAt S' κ2 (λb=>(look mr' b).isSome=true) w' (κ2 b2) ent:=zyo hE (λ_ h=>h) (λg c hk=>by rw[hk]at hE;exact hE.notS) (λhbx cs hcs x hx v hv=>zyD (λb hb=>zi5 (by simpa[ids]using hb)) (honly b2 ent n1 hbx cs hcs x hx) hv)
  refine h1.mono (λ_ h=>h) (λ_ _=>rfl) (λb hb=>?_) (λb hb=>(hr1 b hb).2) (λg c hk=>⟨rfl,by rw[hk]at hE;exact hE.notS⟩);simp only[look]
  simp_all,λb b' g c c' hb hb' hk hk'=>by
  obtain⟨ent,he⟩:=zaI.1 hb;obtain⟨ent',he'⟩:=zaI.1 hb';obtain⟨b2,n1,n2,n3⟩:=name b ent he;obtain⟨b2',n1',n2',n3'⟩:=name b' ent' he';rw[n2]at hk;rw[n2']at hk';have:=h2.inj b2 b2' g c c' (sees b2 ent n1) (sees b2' ent' n1') hk hk'
  grind⟩
 refine⟨hgood,⟨λj mj hj=>?_,λj mj b g c hj hb hk=>?_,λj j' mj mj' b b' g c c' hj hj' hb hb' hk hk'=>?_⟩⟩
 · split at hj
   ·simp_all
   · rename_i hji;rw[if_neg hji];refine(ho.obj j mj hj).mono (λg hg=>h2.sup g hg) (λg hg=>?_) (λb g c hb hk=>?_)
     · refine h2.old g (h.slt g hg) (λb c hb hk=>?_);rcases hcase hb with⟨q1,_,q3⟩|⟨q1,q2,_,q4⟩|⟨q1,_,q3,_,q5⟩
       ·rw[q3]at hk;exact(ho.far i _ B g c hi (by simp[look]) hk).1.2.1 hg
       ·rw[q4]at hk;exact(ho.far i _ b g c hi (hmd b q2) hk).1.2.1 hg
       ·rw[q5]at hk;obtain⟨ent,he⟩:=zaI.1 q3;have hE:=h.ents b ent he;rw[hk]at hE;exact hE.notS hg
     grind
 · split at hj
   · rename_i hji;injection hj with hj;subst hj;rw[if_pos hji]at hk;obtain⟨ent,he⟩:=zaI.1 hb;obtain⟨b2,n1,n2,n3⟩:=name b ent he;rw[n2]at hk;have hE:=h2.ents b2 ent (hd b2 ent n1);rw[hk]at hE;refine⟨⟨hE.lt,hE.notS,λb' c' hl' hk'=>?_⟩,?_⟩
     · obtain⟨q1,q2,q3⟩:=hN b' hl';have:=h2.inj b' b2 g c' c q1 (sees b2 ent n1) (hnear b' g c' hl' hk').1 hk
       simp_all
     · rcases n3 with⟨p1,p2⟩|⟨p1,p2⟩
       ·subst p2;rw[hpar]at hk;exact(ho.far i _ B g c hi (by simp[look]) hk).2
       ·subst p1;exact hM2 g (h2.own b2 g c (hmr' b2 p2).1 (sees b2 ent n1) hk)
   ·rename_i hji;rw[if_neg hji]at hk;obtain⟨_,q2,q3,q4⟩:=hother j mj b g c hji hj hb hk;refine⟨⟨zca q2 h2.grow,q3,λb' c' hl' hk'=>q4 (hnear b' g c' hl' hk').2⟩,(ho.far j mj b g c hj hb hk).2⟩
 ·
  have cross:∀b b' g c c' mj' j',j'≠i->M j'=some mj'->(look ((B,e0')::mr') b).isSome=true->(look mj' b').isSome=true->homeK (κs i) κ2 B b=some (g,c)->κs j' b'=some (g,c')->False:=λb b' g c c' mj' j' hji hM hb hb' hk hk'=>by
   obtain⟨ent,he⟩:=zaI.1 hb;obtain⟨b2,n1,n2,n3⟩:=name b ent he;rw[n2]at hk;rcases n3 with⟨p1,p2⟩|⟨p1,p2⟩
   ·subst p2;rw[hpar]at hk;exact hji (ho.dis j' i mj' _ b' B g c' c hM hi hb' (by simp[look]) hk' hk)
   ·subst p1;exact(hother j' mj' b' g c' hji hM hb' hk').2.2.2 (h2.own b2 g c (hmr' b2 p2).1 (sees b2 ent n1) hk)
  split at hj
  ·grind
  · rename_i hji;rw[if_neg hji]at hk;split at hj'
    ·grind
    ·rename_i hji';rw[if_neg hji']at hk';exact ho.dis j j' mj mj' b b' g c c' hj hj' hb hb' hk hk'
end
end Go.Ab
namespace Go.Ab
open Go.RowKit
variable[Dr]
section
variable{w0:World}{S0:Nat->Prop}{κ0:Kap}{K:Nat->Prop}{N:Nat}{S:Nat->Prop}{κ:Kap}{a:Act}{w:World}{st:St}
theorem zGm{P:Program}{t e:TypeId}{A:Option Addr}{l c:Nat}(hu:P.underlying t=some (.slice e)):(Op.equal t (.slice A l c) (.slice none 0 0)).run P w=.ok A.isNone w:=by
 have:∀d,(Op.equalIn (d+1) t (.slice A l c) (.slice none 0 0)).run P w=.ok A.isNone w:=by intro d;cases A<;>simp only[Op.equalIn,Sem.run_bind,run_underlying hu,Result.andThen_ok,Sem.run_pure]<;>rfl
 exact this 9999
theorem nil_op{P:Program}{ops:Array Oper}{Q:Exit->Act->World->Prop}{i d s:Nat}{t u e:TypeId}{z:Nat}{es:List (List AV)}{X:Sat2}{K':Act->World->Prop}(ho:opIs ops i d (.binOp .eql t (.tmp s) (.const (.slice none 0 0)) u))(hu:P.underlying t=some (.slice e))(hd:d<N)
  (h:NowP w0 S0 κ0 K N X st a w) (hm:get st.t s=.sl z es)
  (hK:∀b:Bool,(b=true->es=[])->NowP w0 S0 κ0 K N X { st with t:=(d,.v (.bool b))::st.t } (a.put (some d) (.bool b)) w->K' (a.put (some d) (.bool b)) w):wpOp P ops Q i K' a w:=by
 obtain⟨S,κ,h1,h2⟩:=h;obtain⟨o,o1,o2,o3,o4⟩:=ho.get;have hv:=h1.slots s;rw[hm]at hv
 obtain⟨A,l,c,hy,hlen⟩:∃A l c,a.tmps.getD s undef=.slice A l c/\(A.isNone=true->es=[]):=by
  generalize a.tmps.getD s undef=y at hv
  cases hv with
  |c h =>
    cases h with
    |sl _ _ A len cap u hlen hcap hz ha hr=>grind
 have heq:=zGm (w:=w) (P:=P) (A:=A) (l:=l) (c:=c) hu;have hy':a.eval (.tmp s)=.slice A l c:=hy;refine zo9 (w':=w) (y:=.bool A.isNone) o1 o4 (by simp[execOp,o3,hy',show a.eval (.const (.slice none 0 0))=.slice none 0 0 from rfl,eqGuard,binOp,heq]) ?_;rw[o2];exact hK _ hlen ⟨S,κ,h1.put hd _ _ (.c (.v _)),h2⟩
end
end Go.Ab
end
