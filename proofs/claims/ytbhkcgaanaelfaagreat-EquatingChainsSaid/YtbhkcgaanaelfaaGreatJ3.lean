/- The statement EquatingChains, by the trees. -/
import Derived.Test.YtbhkcgaanaelfaaGreatJ2
import Derived.Test.YtbhkcgaanaelfaaGreatAbTop
import Derived.OpenShut
import Derived.DataElems
import Derived.ChangeArms
namespace Go.Proofs.YtbhkcgaanaelfaaGreat
open Go.Ab Go.Pure
set_option linter.unusedSimpArgs false
set_option linter.unusedVariables false
set_option maxRecDepth 20000
theorem c_EvalF {l:List Pt} {x:Rat} (ha:Asc l) (hl:2≤l.length) (hl2:l.length≤410) (hb:AllF l) (hx:Fit x) (he:EvF l x):cw zbA [.agg (zao (cF l)),aR x] []=some (zhk (ofR (cv l x),0)):=by
 have h:VC (cF l):=vc_of hb ha hl hl2
 refine zmL _ _ ?_
 rw [zmh,zdW,zbH h,brn_nt,zdM,zaY,decide_eq_true (fit_VR hx),brn_nt]
 show callD zbp (cw zbq [.sl 4 (ptsE l),aR x] []) _=_
 rw [zm5 l x ha hl (by omega) hb hx he,zbr]; rfl
theorem c_ComposeF {F G:List Pt} (h:PairOk F G):cw zhS [.agg (zao (cF F)),.agg (zao (cF G))] []=some (zdB (cF (nf (cps F G (plc F G))),0)):=by
 have hc:=h.h
 have hl:=hc.len
 have h1:VC (cF F):=vc_of hc.fv hc.fa hc.fl (by omega)
 have h2:VC (cF G):=vc_of hc.gv hc.ga hc.gl (by omega)
 have e:cpR F G=(cF (nf (cps F G (plc F G))),0):=by rw [cpR_ok ⟨h.c.1,h.c.2.1⟩,nfR_ok h.c.2.2]
 refine zpi _ _ ?_
 rw [zmh,zdW,zbH h1,brn_nt,zmh,zdW,zbH h2,brn_nt,← e]
 exact k_comp1 hc F.length 0 [] (by omega) (by simp)
theorem equ_pair (k:Int) {x a b y:List Int} (hx:Full x) (ha:Full a) (hb:Full b) (hy:Full y):∃ u w:GCurve×Int,
  cw zbV [I k,aD x,aD a] []=some (zeE u)∧cw zbV [I k,aD b,aD y] []=some (zeE w) ∧
  (u.2=0→w.2=0→∃ F G,u=(cF F,0)∧w=(cF G,0)∧PairOk F G):=by
 by_cases k0:k=0
 · obtain ⟨s,t,p,e,h1,h2⟩:=c_EMeanF hx ha
   obtain ⟨s',t',p',e',h3,h4⟩:=c_EMeanF hb hy
   refine ⟨(cF (lin s t),0),(cF (lin s' t'),0),zeG _ _ _ ?_,zeG _ _ _ ?_,fun _ _=>⟨_,_,rfl,rfl,pair_lin h2 h4⟩⟩
   · rw [k0,brn_t (by rfl),h1,ziD]; rfl
   · rw [k0,brn_t (by rfl),h3,ziD]; rfl
 · by_cases k1:k=1
   · have eq1:∀ (x y:List Int) (v:GCurve×Int),cw zeI [aD x,aD y] []=some (zeD v)→cw zbV [I k,aD x,aD y] []=some (zeE v):=fun x y v h=>by
      refine zeG _ _ _ ?_
      rw [brn_f (beq_false_of_ne k0),k1,brn_t (by rfl),h,zoJ]; rfl
     rcases ztE hx ha with ⟨e,e0,h1⟩ | ⟨s,t,p,e,h1,h2⟩
     · obtain ⟨w,p,r,hl⟩:=zwY b y
       exact ⟨_,w,eq1 _ _ _ h1,eq1 _ _ _ p,fun h=>absurd h e0⟩
     · rcases ztE hb hy with ⟨e',e0,h3⟩ | ⟨s',t',p',e',h3,h4⟩
       · exact ⟨_,_,eq1 _ _ _ h1,eq1 _ _ _ h3,fun _ h=>absurd h e0⟩
       · exact ⟨_,_,eq1 _ _ _ h1,eq1 _ _ _ h3,fun _ _=>⟨_,_,rfl,rfl,pair_lin h2 h4⟩⟩
   · by_cases k2:k=2
     · have eq2:∀ {x y:List Int},Full x→Full y→cw zbV [I k,aD x,aD y] []=some (zeE (nfR (pcP x y))):=fun {x y} h h'=>by
        refine zeG _ _ _ ?_
        rw [brn_f (beq_false_of_ne k0),brn_f (beq_false_of_ne k1),k2,brn_t (by rfl),zqJ h.fd h'.fd,ziY]; rfl
       refine ⟨_,_,eq2 hx ha,eq2 hb hy,fun h h'=>?_⟩
       have f1:NfF (pcP x a):=Classical.byContradiction fun hn=>by rw [nfR_no hn] at h; cases h
       have f2:NfF (pcP b y):=Classical.byContradiction fun hn=>by rw [nfR_no hn] at h'; cases h'
       exact ⟨_,_,nfR_ok f1,nfR_ok f2,pair_pct hx ha hb hy⟩
     · refine ⟨(⟨[]⟩,2),(⟨[]⟩,2),zeG _ _ _ ?_,zeG _ _ _ ?_,fun h=>by cases h⟩
       · rw [brn_f (beq_false_of_ne k0),brn_f (beq_false_of_ne k1),brn_f (beq_false_of_ne k2)]; rfl
       · rw [brn_f (beq_false_of_ne k0),brn_f (beq_false_of_ne k1),brn_f (beq_false_of_ne k2)]; rfl
theorem k_DFull:∀ (k:Nat) (l:List Int) (d:GmarkDice),DOk d→(∀ c∈l,isC c)→1≤l.length+k→l.length+k≤6 →
  ∃ (m:List Int) (d':GmarkDice),zc6 (isE l) d 1 (k:Int)=some (zeA (⟨m⟩,d'))∧DOk d'∧Full m
 | 0,l,d,hd,hc,h1,hl=>by
   refine ⟨l,d,zim _ _ _ _ ?_,hd,List.length_pos_iff.1 (by omega),by omega,hc⟩
   rw [zag,if_neg (by omega),zaf (by omega),List.take_length]
   rfl
 | k+1,l,d,hd,hc,h0,hl=>by
   obtain ⟨a,d1,h1,ha,hd1⟩:=c_Pick d [0,1,2,5,0] hd (by simp) (by simp)
   have hw:isC (w64 (1+a)):=by
    simp only [List.mem_cons,List.not_mem_nil,or_false] at ha
    rw [w64_id (by omega) (by omega)]
    unfold isC
    omega
   have ew:w64 (((k+1:Nat):Int) - 1)=(k:Int):=by rw [w64_id (by omega) (by omega)]; omega
   obtain ⟨m,d',h3,h4,h5⟩:=k_DFull k (l++[w64 (1+a)]) d1 hd1 (fun c hc'=>by
    rcases List.mem_append.1 hc' with h | h
    · exact hc c h
    · rw [List.mem_singleton.1 h]; exact hw) (by simp; omega) (by simp; omega)
   refine ⟨m,d',zim _ _ _ _ ?_,h4,h5⟩
   rw [zag,if_pos (by omega),h1,zpJ,zaf rfl,zaf (by simp; omega),ew]
   rw [isE,List.map_append] at h3
   exact h3
theorem zrt (d:GmarkDice) (hd:DOk d):∃ (x:GDistribution) (d':GmarkDice),cw zcT [.loc 1000 2 0 0,I 5,B true] (mD d)=some (zeA (x,d'))∧DOk d'∧Full x.Counts:=by
 obtain ⟨r,d1,h1,r0,r1,hd1⟩:=c_Next d 6 hd (by omega)
 have e7:w64 (5+1)=6:=by rw [w64_id (by omega) (by omega)]; omega
 have er:w64 (1+r)=(((1+r).toNat:Nat):Int):=by rw [w64_id (by omega) (by omega)]; omega
 obtain ⟨m,d',k1,k2,k3⟩:=k_DFull (1+r).toNat [] d1 hd1 (by simp) (by simp; omega) (by simp; omega)
 refine ⟨⟨m⟩,d',znA d 5 true ?_,k2,k3⟩
 rw [zaC,e7,h1,zk8,er]
 exact k1
theorem ch_1 {F G:List Pt} (h:PairOk F G):∀ (k i:Nat) (z:Rat),i+k=6→Fit z→z < cv G (cv F (i:Rat)) →
  zez (cF F,0) (cF G,0) (cF (nf (cps F G (plc F G))),0) (ofR z) (i:Int)=some (zg8 true):=by
 have hc:=h.h
 have hx:=cps_hyps hc ⟨h.c.1,h.c.2.1⟩
 have hl:=hc.len
 intro k
 induction k with
 | zero =>
   intro i z hi hz hlt
   refine zjq _ _ _ _ _ ?_
   rw [zag,if_neg (by omega),zpf,zhZ]
   rfl
 | succ k ih =>
   intro i z hi hz hlt
   have ew:w64 ((i:Int)+1)=((i+1:Nat):Int):=by rw [w64_id (by omega) (by omega)]; omega
   obtain ⟨e1,e2,e3⟩:=h.e (i:Int) (by omega) (by omega)
   have ei:(((i:Nat):Int):Rat)=(i:Rat):=rfl
   rw [ei] at e1 e2 e3
   have fi:Fit (i:Rat):=by
    show (i:Int).natAbs≤_∧1≤_
    exact ⟨by omega,by omega⟩
   have vF:=e1.val hc.fl
   have vG:=e2.val hc.gl
   have lN:(nf (cps F G (plc F G))).length≤410:=by
    have:=bn_len (cps F G (plc F G)) hx.2.1
    unfold nf; simp; omega
   have aN:=asc_nf hx.1 hx.2.1
   have bN:AllF (nf (cps F G (plc F G))):=by
    obtain ⟨n1,n2,n3,n4,n5⟩:=h.c.2.2
    intro p hp
    unfold nf at hp
    rcases List.mem_cons.1 hp with rfl | hp
    · exact ⟨n2,n4.val hx.2.1⟩
    · rcases List.mem_append.1 hp with hp | hp
      · exact hx.2.2.2 p ((bn_sub _).mem hp)
      · rw [List.mem_singleton.1 hp]
        exact ⟨n3,n5.val hx.2.1⟩
   have E1:=c_EvalF hc.fa hc.fl (by omega) hc.fv fi e1
   have E2:=c_EvalF hc.ga hc.gl (by omega) hc.gv vF e2
   have E3:=c_EvalF aN nf_len lN bN fi e3
   have hp:=zpL F G
   have ev:cv (nf (cps F G (plc F G))) (i:Rat)=cv G (cv F (i:Rat)):=by
    rw [ev_nf hx.1 hx.2.1]
    exact cps_cv hc.fa hc.fl hc.ga hc.gl hp.1 (plc_two hc) (fun p hp'=>(hp.2 _).2 (.inl ⟨p,hp',rfl⟩)) (fun q hq=>(hp.2 _).2 (.inr ⟨q,hq,rfl⟩)) _
   rw [ev] at E3
   refine zjq _ _ _ _ _ ?_
   rw [zag,if_pos (by omega),znr,zeH]
   show callD zbB (cw zbA [.agg (zao (cF F)),aR (i:Rat)] []) _=_
   rw [E1,zd8]
   show callD zbB (cw zbA [.agg (zao (cF G)),aR (cv F (i:Rat))] []) _=_
   rw [E2,zd8,zeH]
   show callD zbB (cw zbA [.agg (zao (cF (nf (cps F G (plc F G))))),aR (i:Rat)] []) _=_
   rw [E3,zd8,brn_f (by rfl),brn_f (by rfl),brn_f (by rfl),brn_f (by simp)]
   show callD zjC (cw zlf [aR z,aR (cv G (cv F (i:Rat)))] []) _=_
   rw [c_rLessF z _ hz vG,zsV,decide_eq_true hlt,brn_nt,ew]
   refine ih (i+1) _ (by omega) vG ?_
   refine zd7 hc.ga hc.gl (zd7 hc.fa hc.fl ?_)
   rw [Rat.natCast_add]
   show (i:Rat) < (i:Rat)+1
   grind
theorem zq6 (t:List Int) (kind:Int) :
  cw zj7 [.sl 1 (List.map zaj t),.v (.int .u8 kind)] []=some (zg8 true):=by
 refine zoq _ _ ?_
 rw [c_Light,zs3]
 by_cases ht:(t.length:Int)≤600
 · have hd0:DOk ⟨t,0⟩:=⟨by show (0:Int)≤0; omega,by show t.length≤600; omega⟩
   obtain ⟨⟨x⟩,d1,n1,hd1,fx⟩:=zrt ⟨t,0⟩ hd0
   obtain ⟨⟨a⟩,d2,n2,hd2,fa⟩:=zrt d1 hd1
   obtain ⟨⟨b⟩,d3,n3,hd3,fb⟩:=zrt d2 hd2
   obtain ⟨⟨y⟩,d4,n4,hd4,fy⟩:=zrt d3 hd3
   rw [decide_eq_true ht,brn_nt,c_Roll,zte,n1,zdE,n2,zdE,n3,zdE,n4,zdE,zaf (by decide)]
   generalize w64 (kind.tmod 3)=k
   obtain ⟨u,w,p1,p2,hp⟩:=equ_pair k fx fa fb fy
   show callD zcN (cw zbV [I k,aD x,aD a] []) _=_
   rw [p1,zcR]
   show callD zcN (cw zbV [I k,aD b,aD y] []) _=_
   rw [p2,zcR]
   show callD zgl (cw zeX [aD x,aD a,aD b,aD y,I k] []) _=_
   by_cases h1:u.2=0
   · by_cases h2:w.2=0
     · obtain ⟨F,G,rfl,rfl,h⟩:=hp h1 h2
       have c:cw zeX [aD x,aD a,aD b,aD y,I k] []=some (zgk (cF (nf (cps F G (plc F G))),0)):=by
        refine zkL _ _ _ _ _ ?_
        rw [p1,zcR,brn_f (by rfl),p2,zcR,brn_f (by rfl),c_ComposeF h,zno]; rfl
       rw [c,zhX,brn_f (by rfl),brn_f (by rfl),brn_f (by rfl),znr,zeH]
       exact ch_1 h 6 0 (-1000) (by omega) (by decide +kernel) h.low
     · have c:cw zeX [aD x,aD a,aD b,aD y,I k] []=some (zgk (⟨[]⟩,w.2)):=by
        refine zkL _ _ _ _ _ ?_
        rw [p1,zcR,h1,brn_f (by rfl),p2,zcR,brn_t (bne_iff_ne.2 h2)]; rfl
       rw [c,zhX,h1,brn_f (by rfl),brn_t (bne_iff_ne.2 h2),brn_t (bne_iff_ne.2 h2),zpf,zhZ]; rfl
   · have c:cw zeX [aD x,aD a,aD b,aD y,I k] []=some (zgk (⟨[]⟩,u.2)):=by
      refine zkL _ _ _ _ _ ?_
      rw [p1,zcR,brn_t (bne_iff_ne.2 h1)]; rfl
     rw [c,zhX,brn_t (bne_iff_ne.2 h1),brn_t (bne_iff_ne.2 h1),zpf,zhZ]; rfl
 · rw [decide_eq_false ht,brn_nf,zpf,zhZ]; rfl
end Go.Proofs.YtbhkcgaanaelfaaGreat
namespace Go.Ab
open Go.RowKit
abbrev Old (w:World):Nat→Prop:=fun g=>g < w.heap.size
def Rd (P:Program) (w:World) (t:TypeId) (n:Nat) {T:Type} (nT:T→List AV):Prop:=
 P.cellsOf t=n∧(∀ v,(nT v).length=n) ∧
 ∀ (H:Type) (enc:TypeId×Value→H) (base:Nat) (spare:Nat→Bool) (held:Bool) (fuel:Nat) (cs:List Value) (x:DataW H×List MemPlace),DataW.trod enc P w base spare held fuel t cs=some x →
   ∃ v:T,cs.length=n∧∀ (j:Nat) (c:AV) (y:Value),(nT v)[j]?=some c→cs[j]?=some y→CRel (Old w) w c y∧y.oneCell'=true
theorem rd_int {P:Program} {w:World} {t:TypeId} {k:IntKind} (hc:P.cellsOf t=1) (ht:P.underlying t=some (.int k)):Rd P w t 1 (fun n:Int=>[AV.v (.int k n)]):=by
 refine ⟨hc,fun _=>rfl,fun H enc base spare held fuel cs x h=>?_⟩
 obtain ⟨n,rfl,_,_⟩:=DataW.trod_int ht h
 refine ⟨n,rfl,fun j c y h1 h2=>?_⟩
 cases j with
 | zero=>simp at h1 h2; subst h1; subst h2; exact ⟨.v _,rfl⟩
 | succ j=>simp at h1
theorem list_of {T:Type} {R:Nat→T→Prop}:∀ n:Nat,(∀ i,i < n→∃ v,R i v)→∃ l:List T,l.length=n∧∀ i v,l[i]?=some v→R i v
 | 0,_=>⟨[],rfl,fun i v h=>by simp at h⟩
 | n+1,h=>by
   obtain ⟨l,h1,h2⟩:=list_of n (fun i hi=>h i (by omega))
   obtain ⟨v,hv⟩:=h n (by omega)
   refine ⟨l++[v],by simp [h1],fun i u hu=>?_⟩
   by_cases hi:i < n
   · rw [List.getElem?_append_left (by omega)] at hu
     exact h2 i u hu
   · have hlt:=(List.getElem?_eq_some_iff.1 hu).1
     simp at hlt
     have:i=l.length:=by omega
     subst this
     rw [List.getElem?_append_right (by omega)] at hu
     simp at hu
     subst hu
     rw [h1]
     exact hv
theorem rd_slice {P:Program} {w:World} {t e:TypeId} {n:Nat} {T:Type} {nT:T→List AV} (hc:P.cellsOf t=1) (ht:P.underlying t=some (.slice e)) (hn:0 < n) (he:Rd P w e n nT) :
  Rd P w t 1 (fun l:List T=>[AV.sl n (l.map nT)]):=by
 refine ⟨hc,fun _=>rfl,fun H enc base spare held fuel cs x h=>?_⟩
 have done:∀ (l:List T) (y:Value),CRel (Old w) w (.sl n (l.map nT)) y→y.oneCell'=true→∃ v:List T,[y].length=1∧∀ (j:Nat) (c:AV) (z:Value),[AV.sl n (v.map nT)][j]?=some c→[y][j]?=some z→CRel (Old w) w c z∧z.oneCell'=true:=by
  intro l y hy h1
  refine ⟨l,rfl,fun j c z hj hz=>?_⟩
  cases j with
  | zero=>simp at hj hz; subst hj; subst hz; exact ⟨hy,h1⟩
  | succ j=>simp at hj
 rcases DataW.trod_slice ht h with ⟨rfl,_⟩ | ⟨a,len,cap,elems,rest,m,rfl,rfl,_,hb,hl,_,hlen,hel,_,_⟩
 · exact done [] _ (CRel.nil_sl n) rfl
 · have each:∀ i,i < len→∃ v:T,a.block < w.heap.size∧∀ (j:Nat) (c:AV),(nT v)[j]?=some c→∃ y,w.cell? (a.add (i*n+j))=some y∧CRel (Old w) w c y∧y.oneCell'=true:=by
    intro i hi
    have h1:=hel i hi
    rw [List.getElem?_eq_getElem (by omega),he.1] at h1
    obtain ⟨cs',h2,h3⟩:=Option.bind_eq_some_iff.1 h1
    obtain ⟨v,h4,h5⟩:=he.2.2 H enc base spare held m cs' _ h3
    obtain ⟨h6,h7,h8⟩:=World.cells?_some h2
    have hblk:=World.cells?_block h2 hn
    rw [zhH] at hblk
    refine ⟨v,hblk,fun j c hj=>?_⟩
    have hjn:j < n:=by have:=(List.getElem?_eq_some_iff.1 hj).1; rw [he.2.1] at this; exact this
    have h9:=h8 j hjn
    rw [Go.Addr.add_add] at h9
    have h10:cs'[j]?=some (cs'[j]'(by omega)):=List.getElem?_eq_getElem (by omega)
    refine ⟨cs'[j]'(by omega),by rw [h9,h10],h5 j c _ hj h10⟩
   obtain ⟨l,hll,hlr⟩:=list_of len each
   refine done l _ (.sl n _ (some a) len cap (fun i j=>(w.cell? (a.add (i*n+j))).getD undef) (by simp; omega) hl (fun cs hcs=>by obtain ⟨v,_,rfl⟩:=List.mem_map.1 hcs; exact he.2.1 v) ?_ ?_) rfl
   · cases l with
     | nil=>left; rfl
     | cons v l' =>
       right
       refine ⟨a,rfl,(hlr 0 v rfl).1,fun i j cs c h1 h2=>?_⟩
       rw [List.getElem?_map] at h1
       obtain ⟨u,hu,rfl⟩:=Option.map_eq_some_iff.1 h1
       obtain ⟨y,hy,hr,ho⟩:=(hlr i u hu).2 j c h2
       rw [hy]
       exact ⟨rfl,ho⟩
   · intro i j cs c h1 h2
     rw [List.getElem?_map] at h1
     obtain ⟨u,hu,rfl⟩:=Option.map_eq_some_iff.1 h1
     obtain ⟨y,hy,hr,ho⟩:=(hlr i u hu).2 j c h2
     rw [hy]
     exact hr
theorem arg_cell {P:Program} {w:World} {t:TypeId} {T:Type} {f:T→AV} (hr:Rd P w t 1 (fun v=>[f v])) {H:Type} {enc:TypeId×Value→H} {base:Nat} {spare:Nat→Bool} {held:Bool} {y:Value} (hy:y.cells.toList=[y]) {d:DataW H} {ps:List MemPlace}
  (h:DataW.Trod enc P w base spare held t y d ps) {κ:Kap} {D:Nat→Prop}:∃ v:T,VRel (Old w) κ D w (f v) y:=by
 obtain ⟨fuel,hf⟩:=h
 rw [hy] at hf
 obtain ⟨v,_,h2⟩:=hr.2.2 H enc base spare held fuel _ _ hf
 exact ⟨v,.c (h2 0 _ _ rfl rfl).1⟩
end Go.Ab
