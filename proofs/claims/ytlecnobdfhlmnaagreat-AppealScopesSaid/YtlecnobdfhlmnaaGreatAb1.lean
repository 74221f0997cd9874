/- Operations that only read: what the abstract operation says is what the model's operation gives. -/
import Derived.Test.YtlecnobdfhlmnaaGreatAb0
set_option linter.unusedSimpArgs false
set_option linter.unusedVariables false
set_option linter.unusedSectionVars false
noncomputable section
namespace Go.Ab
open Go.RowKit
def Ent.cap(e:Ent):Nat:=if e.box then 1 else maxLen
theorem Ent.cap_le(e:Ent):e.cap<=maxLen:=by
 unfold Ent.cap;split
 ·unfold maxLen;omega
 ·exact zaX _
def CellAt(S:Nat->Prop)(κ:Kap)(D:Nat->Prop)(w:World)(kb:Option (Nat×Nat))(ent:Ent):Prop:=
 (∀cs∈ent.es,cs.length=ent.z)/\match kb with
 |none=>ent.es=[]/\ent.box=false
 |some (g,c)=>∃cells:Array Value,w.heap[g]?=some (.cells cells ent.e (0,0))/\cells.size=c*ent.z/\ent.es.length<=c/\c<=ent.cap/\¬S g /\
   ∀(i j:Nat) (cs:List AV) (a:AV),ent.es[i]?=some cs->cs[j]?=some a->∃u,cells[i*ent.z+j]?=some u/\u.oneCell'=true/\(ent.box=true->VRel S κ D w a u)/\(ent.box=false->CRel S w a u)
def MapAt(S:Nat->Prop)(w:World)(kb:Option (Nat×Nat))(es:List (List AV)):Prop:=
 ∃g c en clock,kb=some (g,c)/\¬S g/\w.heap[g]?=some (.map en clock)/\en.size=es.length/\(∀(i:Nat) (e:MapEntry),en[i]?=some e->e.born<clock)/\(∀(i j:Nat) (e f:MapEntry),i<j->en[i]?=some e->en[j]?=some f->e.born<f.born)/\(∀cs∈es,∃k v,cs=[k,v])/\∀(i:Nat) (k v:AV) (e:MapEntry),es[i]?=some [k,v]->en[i]?=some e->CRel S w k e.key/\CRel S w v e.val
def Ent.cell(ent:Ent):Prop:=ent.box=true\/0<ent.z
def EntAt(S:Nat->Prop)(κ:Kap)(D:Nat->Prop)(w:World)(kb:Option (Nat×Nat))(ent:Ent):Prop:=
 (ent.cell->CellAt S κ D w kb ent)/\(¬ent.cell->MapAt S w kb ent.es)
theorem EntAt.of{S:Nat->Prop}{κ:Kap}{D:Nat->Prop}{w:World}{kb:Option (Nat×Nat)}{ent:Ent}(hc:ent.cell)(h:CellAt S κ D w kb ent):EntAt S κ D w kb ent:=⟨λ_=>h,λq=>absurd hc q⟩
theorem EntAt.ofMap{S:Nat->Prop}{κ:Kap}{D:Nat->Prop}{w:World}{kb:Option (Nat×Nat)}{ent:Ent}(h1:ent.z=0)(h2:ent.box=false)(h:MapAt S w kb ent.es):EntAt S κ D w kb ent:=
 ⟨λq=>by unfold Ent.cell at q;simp_all,λ_=>h⟩
theorem zxs{ent:Ent}(h1:ent.z=0)(h2:ent.box=false):¬ent.cell:=by unfold Ent.cell;rw[h1,h2];simp
theorem MapAt.mono{S S':Nat->Prop}{w w':World}{kb:Option (Nat×Nat)}{es:List (List AV)}(h:MapAt S w kb es)(hS:∀g,S g->S' g)(hw:∀g,S g->w'.heap[g]?=w.heap[g]?)
  (hb:∀g c,kb=some (g,c)->w'.heap[g]?=w.heap[g]?/\¬S' g):MapAt S' w' kb es:=by
 obtain⟨g,c,en,clock,hk,hn,hg,hl,h1,h2,h3,h4⟩:=h;obtain⟨e1,e2⟩:=hb g c hk;exact⟨g,c,en,clock,hk,e2,e1.trans hg,hl,h1,h2,h3,λi k v e hi he=>⟨(h4 i k v e hi he).1.mono hS hw,(h4 i k v e hi he).2.mono hS hw⟩⟩
theorem CellAt.mono{S S':Nat->Prop}{κ κ':Kap}{D D':Nat->Prop}{w w':World}{kb:Option (Nat×Nat)}{ent:Ent}(h:CellAt S κ D w kb ent)
  (hS:∀g,S g->S' g) (hw:∀g,S g->w'.heap[g]?=w.heap[g]?) (hD:∀b,D b->D' b) (hκ:∀b,D b->κ' b=κ b)
  (hb:∀g c,kb=some (g,c)->w'.heap[g]?=w.heap[g]?/\¬S' g):CellAt S' κ' D' w' kb ent:=by
 refine⟨h.1,?_⟩;have h2:=h.2
 cases kb with
 |none=>exact h2
 |some gc=>obtain⟨g,c⟩:=gc;obtain⟨cells,h1,h3,h4,h5,_,h7⟩:=h2;obtain⟨e1,e2⟩:=hb g c rfl;refine⟨cells,e1.trans h1,h3,h4,h5,e2,λi j cs a hi hj=>?_⟩;obtain⟨u,q1,q2,q3,q4⟩:=h7 i j cs a hi hj;exact⟨u,q1,q2,λhb=>(q3 hb).mono hS hw hD hκ,λhb=>(q4 hb).mono hS hw⟩
theorem EntAt.mono{S S':Nat->Prop}{κ κ':Kap}{D D':Nat->Prop}{w w':World}{kb:Option (Nat×Nat)}{ent:Ent}(h:EntAt S κ D w kb ent)
  (hS:∀g,S g->S' g) (hw:∀g,S g->w'.heap[g]?=w.heap[g]?) (hD:∀b,D b->D' b) (hκ:∀b,D b->κ' b=κ b)
  (hb:∀g c,kb=some (g,c)->w'.heap[g]?=w.heap[g]?/\¬S' g):EntAt S' κ' D' w' kb ent:=
 ⟨λq=>(h.1 q).mono hS hw hD hκ hb,λq=>(h.2 q).mono hS hw hb⟩
theorem EntAt.notS{S:Nat->Prop}{κ:Kap}{D:Nat->Prop}{w:World}{g c:Nat}{ent:Ent}(h:EntAt S κ D w (some (g,c)) ent):¬S g:=by
 by_cases hc:ent.cell
 ·obtain⟨_,cells,_,_,_,_,hn,_⟩:=h.1 hc;exact hn
 ·obtain⟨g',c',en,clock,e,hn,_⟩:=h.2 hc;cases e;exact hn
theorem EntAt.lt{S:Nat->Prop}{κ:Kap}{D:Nat->Prop}{w:World}{g c:Nat}{ent:Ent}(h:EntAt S κ D w (some (g,c)) ent):g<w.heap.size:=by
 by_cases hc:ent.cell
 · obtain⟨_,cells,hg,_⟩:=h.1 hc
   grind
 · obtain⟨g',c',en,clock,e,hn,hg,_⟩:=h.2 hc
   grind
theorem EntAt.handed{S S':Nat->Prop}{κ κ':Kap}{D D':Nat->Prop}{w:World}{kb:Option (Nat×Nat)}{ent:Ent}(h:EntAt S κ D w kb ent)(hS:∀g,S g->S' g)
  (hn:∀g c,kb=some (g,c)->¬S' g) (hcl:ent.box=true->∀cs∈ent.es,∀a∈cs,a.isC 4=true):EntAt S' κ' D' w kb ent:=by
 refine⟨λhc=>?_,λhc=>?_⟩
 · obtain⟨q1,q2⟩:=h.1 hc;refine⟨q1,?_⟩
   cases kb with
   |none=>exact q2
   |some gc=>obtain⟨g,c⟩:=gc;obtain⟨cells,c1,c2,c3,c4,c5,c6⟩:=q2;refine⟨cells,c1,c2,c3,c4,hn g c rfl,λi j cs a hi hj=>?_⟩;obtain⟨u,u1,u2,u3,u4⟩:=c6 i j cs a hi hj;exact⟨u,u1,u2,λhbx=>.c ((zkY 4 (hcl hbx cs (zaq hi) a (zaq hj)) (u3 hbx)).mono hS (λ_ _=>rfl)),λhbx=>(u4 hbx).mono hS (λ_ _=>rfl)⟩
 ·exact(h.2 hc).mono hS (λ_ _=>rfl) (λg c hk=>⟨rfl,hn g c hk⟩)
section
variable{P:Program}{S:Nat->Prop}{κ:Kap}{D:Nat->Prop}{w:World}
theorem zov{t:TypeId}{b:Bool}(h:isAggB P t=some b):(isAgg t).run P w=.ok b w:=by
 unfold isAggB at h
 cases hu:P.underlying t with
 |none=>simp[hu]at h
 |some d=>simp only[hu]at h;simp only[isAgg,Sem.run_bind,run_underlying hu,Result.andThen_ok];cases d<;>simp at h<;>subst h<;>rfl
theorem zd7{t:TypeId}{n:Nat}(h:szB P t=some n):(sizeOf t).run P w=.ok n w:=by
 unfold szB at h
 cases hi:P.info? t with
 |none=>simp[hi]at h
 |some i=>simp[hi]at h;subst h;simp[sizeOf,typeInfo,hi]
theorem zs4{u:Nat->Value}{n j:Nat}{x:Value}(h:((List.range n).map u)[j]?=some x):j<n/\u j=x:=by grind
theorem zy7{t:TypeId}{a:Addr}{cs:List AV}{av:AV}{u:Nat->Value}(R:AV->Value->Prop)
  (hagg:∀(l:List AV) (vs:Array Value),vs.size=l.length->(∀x∈vs,x.oneCell'=true)->(∀(j:Nat) (c:AV) (x:Value),l[j]?=some c->vs[j]?=some x->R c x)->R (.agg l) (.agg vs))
  (hc:∀(j:Nat) (c:AV),cs[j]?=some c->w.cell? (a.add j)=some (u j)/\(u j).oneCell'=true/\R c (u j))
  (h:readAt P t cs=some av):∃x,(loadVar t a).run P w=.ok x w/\R av x:=by
 unfold readAt at h
 cases hb:isAggB P t with
 |none=>simp[hb]at h
 |some b =>
   cases b with
   |false =>
     simp only[hb]at h;obtain⟨h1,_,h3⟩:=hc 0 av h;have ha:a.add 0=a:=by simp[Addr.add]
     rw[ha]at h1;refine⟨u 0,?_,h3⟩;simp[loadVar,zov hb,h1]
   |true =>
     simp only[hb]at h
     cases hs:szB P t with
     |none=>simp[hs]at h
     |some n =>
       simp only[hs]at h;split at h
       · rename_i hle;injection h with h;subst h
         have hl:=run_loadCells_list (P:=P) w a ((List.range n).map u) (λj x hx=>by
          obtain⟨hj,rfl⟩:=zs4 hx
          exact(hc j _ (zaa (by omega))).1)
         simp only[zad,zdZ]at hl;refine⟨.agg ((List.range n).map u).toArray,?_,?_⟩
         ·simp[loadVar,zov hb,zd7 hs,hl]
         · refine hagg _ _ (by simp;omega) ?_ ?_
           ·intro x hx;simp at hx;obtain⟨j,hj,rfl⟩:=hx;exact(hc j _ (zaa (by omega))).2.1
           grind
       ·cases h
theorem VRel.agg_mk(l:List AV)(vs:Array Value)(h:vs.size=l.length)(h1:∀x∈vs,x.oneCell'=true)
  (hr:∀(j:Nat) (c:AV) (x:Value),l[j]?=some c->vs[j]?=some x->VRel S κ D w c x):VRel S κ D w (.agg l) (.agg vs):=.agg l vs h h1 hr
theorem zCf{L:Nat->Option Ent}{t:TypeId}{a:AV}{r:Res}{x:Value}(h:aLoad P L t a=some r)(hx:VRel S κ D w a x)
  (hL:∀b ent,L b=some ent->EntAt S κ D w (κ b) ent):∃y,(Instr.loadAt t x).run P w=.ok y w/\VRel S κ D w r.val y/\r.set=[]/\r.kill=none/\r.frz=[]/\r.re=[]:=by
 cases a<;>simp[aLoad]at h
 case fp cs =>
  have hf:=hx.fp_inv
  cases hf with
  |fp _ ad u hS hc hr =>
    cases hq:readAt P t cs with
    |none=>simp[hq]at h
    |some av=>simp only[hq,zaf]at h;subst h;obtain⟨y,h1,h2⟩:=zy7 (P:=P) (w:=w) (VRel S κ D w) VRel.agg_mk (a:=ad) (u:=u) (λj c hj=>⟨(hc j c hj).1,(hc j c hj).2,.c (hr j c hj)⟩) hq;exact⟨y,by simpa[Instr.loadAt,Instr.sureAddr]using h1,h2,rfl,rfl,rfl,rfl⟩
 case loc b z i o =>
  obtain⟨g,c,hd,hk,rfl⟩:=hx.loc_inv
  cases hl:L b with
  |none=>simp[hl]at h
  |some ent =>
    simp only[hl]at h;split at h
    · rename_i hzc;obtain⟨hz,hcl⟩:=hzc
      cases hi:ent.es[i]? with
      |none=>simp[hi]at h
      |some cs =>
        simp only[hi]at h
        cases hq:readAt P t (cs.drop o)with
        |none=>simp[hq]at h
        |some av =>
          simp only[hq,zaf]at h;subst h;obtain⟨_,hent⟩:=(hL b ent hl).1 hcl;rw[hk]at hent;obtain⟨cells,hc,_,_,_,_,hcell⟩:=hent
          have hcs:∀(j:Nat) (c:AV),(cs.drop o)[j]?=some c->∃u,w.cell? ((⟨g,i*z+o,none⟩:Addr).add j)=some u/\u.oneCell'=true/\VRel S κ D w c u:=by
           intro j c hj;rw[zb4]at hj;obtain⟨u,h1,h2,h3,h4⟩:=hcell i (o+j) cs c hi hj;refine⟨u,?_,h2,?_⟩
           · have:(⟨g,i*z+o,none⟩:Addr).add j=⟨g,i*z+o+j,none⟩:=by unfold Addr.add;split<;>simp_all
             rw[this,cell_of_row w g _ cells ent.e (0,0) hc,<-h1,hz]
             grind
           · cases hbx:ent.box with
             |true=>exact h3 hbx
             |false=>exact .c (h4 hbx)
          obtain⟨y,h1,h2⟩:=zy7 (P:=P) (w:=w) (VRel S κ D w) VRel.agg_mk (a:=⟨g,i*z+o,none⟩)
           (u:=λj=>(w.cell? ((⟨g,i*z+o,none⟩:Addr).add j)).getD undef) (λj c hj=>by grind) hq
          exact⟨y,by simpa[Instr.loadAt,Instr.sureAddr]using h1,h2,rfl,rfl,rfl,rfl⟩
    ·cases h
theorem add_at(g n j:Nat):(⟨g,n,none⟩:Addr).add j=⟨g,n+j,none⟩:=by unfold Addr.add;split<;>simp_all
theorem fp_add{cs:List AV}{a:Addr}{n:Nat}(h:CRel S w (.fp cs) (.pointer (some a))):CRel S w (.fp (cs.drop n)) (.pointer (some (a.add n))):=by
 cases h with
 |fp _ _ u hS hc hr =>
   refine .fp _ _ (λj=>u (n+j)) (by rw[zmn];exact hS) (λj c hj=>?_) (λj c hj=>?_)
   ·rw[zb4]at hj;rw[Go.Deep.add_add];exact hc _ c hj
   simp_all
theorem fp_take{cs:List AV}{a:Addr}{n:Nat}(h:CRel S w (.fp cs) (.pointer (some a))):CRel S w (.fp (cs.take n)) (.pointer (some a)):=by
 cases h with
 |fp _ _ u hS hc hr =>
   refine .fp _ _ u hS (λj c hj=>?_) (λj c hj=>?_)
   ·grind
   grind
theorem zIi{s:TypeId}{f:Nat}{a:AV}{r:Res}{x:Value}(h:aField P s f a=some r)(hx:VRel S κ D w a x):∃y,(Instr.fieldAt s x f).run P w=.ok y w/\VRel S κ D w r.val y/\r.set=[]/\r.kill=none/\r.frz=[]/\r.re=[]:=by
 unfold aField at h;split at h
 · rename_i fields hu
   cases hf:fields[f]? with
   |none=>simp[hf]at h
   |some fd =>
     simp only[hf]at h;split at h
     · rename_i n hn;have hrun:∀ad:Addr,(fieldPlace ad fd).run P w=.ok (ad.add fd.offset) w:=λad=>by simp[fieldPlace,zd7 hn]
       cases a<;>simp at h
       case fp cs =>
        subst h;have hf':=hx.fp_inv
        cases hf' with
        |fp _ ad u hS hc hr=>refine⟨.pointer (some (ad.add fd.offset)),?_,.c (fp_add (CRel.fp cs ad u hS hc hr)),rfl,rfl,rfl,rfl⟩;simp[Instr.fieldAt,run_underlying hu,hf,Instr.sureAddr,hrun]
       case loc b z i o=>subst h;obtain⟨g,c,hd,hk,rfl⟩:=hx.loc_inv;refine⟨.pointer (some ⟨g,i*z+(o+fd.offset),none⟩),?_,.loc b z i (o+fd.offset) g c hd hk,rfl,rfl,rfl,rfl⟩;simp[Instr.fieldAt,run_underlying hu,hf,Instr.sureAddr,hrun,add_at,zhc]
     ·cases h
 ·cases h
theorem zIj{t:TypeId}{a ix:AV}{r:Res}{x y:Value}(h:aIndex P t a ix=some r)(hx:VRel S κ D w a x)(hy:VRel S κ D w ix y):∃q,(Instr.indexAt t x y).run P w=.ok q w/\VRel S κ D w r.val q/\r.set=[]/\r.kill=none/\r.frz=[]/\r.re=[]:=by
 unfold aIndex at h;split at h
 · rename_i k n;rw[hy.v_inv];split at h
   · rename_i e hu;split at h
     · rename_i sz z es hs;split at h
       · rename_i hz;obtain⟨rfl,hn⟩:=hz
         cases he:es[n.toNat]? with
         |none=>simp[he]at h
         |some cs =>
           simp only[he,zaf]at h;subst h;have hf:=hx.sl_inv
           cases hf with
           |sl _ _ A len cap u hlen hcap hzz ha hr =>
             have hlt:n.toNat<es.length:=(zam.1 he).1;rcases ha with h0|⟨ad,rfl,hS,hc⟩
             ·simp_all
             · refine⟨.pointer (some (ad.add (n.toNat*z))),?_,.c (.fp cs _ (λj=>u n.toNat j) (by rw[zmn];exact hS) (λj c hj=>?_) (λj c hj=>hr _ j cs c he hj)),rfl,rfl,rfl,rfl⟩
               · have hb:0<=n/\n<(len:Int):=by omega
                 simp[Instr.indexAt,asIntOf,run_underlying hu,zd7 hs,hb]
               · rw[Go.Deep.add_add]
                 grind
       ·cases h
     · rename_i sz b z off len hs;split at h
       · rename_i hz;obtain⟨rfl,hn,hlt⟩:=hz;injection h with h;subst h
         cases hx with
         |c h=>cases h
         |row0 _ _ _ _=>simp at hlt;omega
         |row _ _ _ _ g c off' cap hd hk hnc ho hc =>
           have hoff:off'=off*z:=by
            rcases ho with h|⟨h,_⟩
            ·exact h
            ·omega
           subst hoff;refine⟨.pointer (some ⟨g,(off+n.toNat)*z+0,none⟩),?_,.loc b z (off+n.toNat) 0 g c hd hk,rfl,rfl,rfl,rfl⟩;simp[Instr.indexAt,asIntOf,run_underlying hu,zd7 hs,hn,hlt,add_at,zdD]
       ·cases h
     ·cases h
   · rename_i len e hu;split at h
     · rename_i hn;split at h
       · rename_i sz cs hs;injection h with h;subst h;have hf:=hx.fp_inv
         cases hf with
         |fp _ ad u hS hc hr=>refine⟨.pointer (some (ad.add (n.toNat*sz))),?_,.c (fp_take (fp_add (CRel.fp cs ad u hS hc hr))),rfl,rfl,rfl,rfl⟩;simp[Instr.indexAt,asIntOf,run_underlying hu,zd7 hs,Instr.sureAddr,hn]
       · rename_i sz z es hs;split at h
         case isFalse=>cases h
         rename_i hz;subst hz
         cases he:es[n.toNat]? with
         |none=>simp[he]at h
         |some cs =>
           simp only[he,zaf]at h;subst h;obtain⟨ad,u,rfl,hS,hc,hr⟩:=hx.fa_inv.fa_data
           · refine⟨.pointer (some (ad.add (n.toNat*z))),?_,.c (.fp cs _ (λj=>u n.toNat j) (by rw[zmn];exact hS) (λj c hj=>?_) (λj c hj=>hr _ j cs c he hj)),rfl,rfl,rfl,rfl⟩
             ·simp[Instr.indexAt,asIntOf,run_underlying hu,zd7 hs,Instr.sureAddr,hn]
             · rw[Go.Deep.add_add]
               grind
       · rename_i sz b z i o hs;obtain⟨g,c,hd,hk,rfl⟩:=hx.loc_inv;split at h
         ·rename_i hz;obtain⟨rfl,rfl⟩:=hz;injection h with h;subst h;refine⟨.pointer (some ⟨g,(i+n.toNat)*z+0,none⟩),?_,.loc b z (i+n.toNat) 0 g c hd hk,rfl,rfl,rfl,rfl⟩;simp[Instr.indexAt,asIntOf,run_underlying hu,zd7 hs,Instr.sureAddr,hn,add_at,zdD]
         ·injection h with h;subst h;refine⟨.pointer (some ⟨g,i*z+(o+n.toNat*sz),none⟩),?_,.loc b z i _ g c hd hk,rfl,rfl,rfl,rfl⟩;simp[Instr.indexAt,asIntOf,run_underlying hu,zd7 hs,Instr.sureAddr,hn,add_at,zhc]
       ·cases h
     ·cases h
   ·cases h
 ·cases h
theorem znx{d:Nat}{a:Option AV}{n:Nat}{x:Option Value}(h:natOf d a=some n)(hx:(a=none/\x=none)\/∃b y,a=some b/\x=some y/\VRel S κ D w b y):(a=none/\x=none/\n=d)\/∃k,x=some (.int k n):=by
 rcases hx with⟨rfl,rfl⟩|⟨b,y,rfl,rfl,hr⟩
 ·simp[natOf]at h;simp_all
 · unfold natOf at h;split at h
   ·rename_i h';cases h'
   · rename_i k m h';injection h' with h';subst h';split at h
     · rename_i hm;injection h with h;rw[hr.v_inv]
       grind
     ·cases h
   ·cases h
theorem zx4{len cap l h:Nat}{lo hi:Option Value}(hl:(lo=none/\l=0)\/∃k,lo=some (.int k l))(hh:(hi=none/\h=len)\/∃k,hi=some (.int k h))
  (h1:l<=h) (h2:h<=len) (h3:len<=cap):(Instr.sliceBounds true len cap lo hi none).run P w=.ok (l,h,cap) w:=by
 have e1:∀k,(Instr.sliceBound (.int k h) cap .sliceAcap).run P w=.ok h w:=λk=>by simp[Instr.sliceBound,asIntOf];omega
 have e2:∀k,(Instr.sliceBound (.int k l) h .sliceB).run P w=.ok l w:=λk=>by simp[Instr.sliceBound,asIntOf];omega
 rcases hl with⟨rfl,rfl⟩|⟨k,rfl⟩<;>rcases hh with⟨rfl,rfl⟩|⟨k',rfl⟩<;>simp[Instr.sliceBounds,e1,e2]
theorem zIp{t:TypeId}{a:AV}{lo hi:Option AV}{lo' hi':Option Value}{r:Res}{x:Value}(h:aSlice P t a lo hi=some r)(hx:VRel S κ D w a x)
  (hlo:(lo=none/\lo'=none)\/∃b y,lo=some b/\lo'=some y/\VRel S κ D w b y) (hhi:(hi=none/\hi'=none)\/∃b y,hi=some b/\hi'=some y/\VRel S κ D w b y):∃q,(Instr.sliceAt t x lo' hi' none).run P w=.ok q w/\VRel S κ D w r.val q/\r.set=[]/\r.kill=none/\r.frz=[]/\r.re=[]:=by
 unfold aSlice at h;split at h
 · rename_i e hu;split at h
   · rename_i sz z es hs;split at h
     · rename_i l hh hl1 hh1;split at h
       · rename_i hz;obtain⟨rfl,h1,h2⟩:=hz;injection h with h;subst h;have hf:=hx.sl_inv
         cases hf with
         |sl _ _ A len cap u hlen hcap hzz ha hr =>
           have hb:=zx4 (P:=P) (w:=w) (len:=len) (cap:=cap) (l:=l) (h:=hh) (lo:=lo') (hi:=hi')
            (by rcases znx hl1 hlo with⟨_,a,b⟩|⟨k,a⟩;exact .inl ⟨a,b⟩;exact .inr ⟨k,a⟩)
            (by rcases znx hh1 hhi with⟨_,a,b⟩|⟨k,a⟩;exact .inl ⟨a,by omega⟩;exact .inr ⟨k,a⟩) h1 (by omega) hcap
           refine⟨.slice (if cap=l then A else A.map (·.add (l*z))) (hh-l) (cap-l),?_,.c ?_,rfl,rfl,rfl,rfl⟩
           ·simp[Instr.sliceAt,run_underlying hu,Instr.slice,hb,zd7 hs]
           · have hget:∀(i:Nat) (cs:List AV),((es.take hh).drop l)[i]?=some cs->es[l+i]?=some cs:=by
              intro i cs hi;rw[zb4,zch]at hi;split at hi
              ·exact hi
              ·cases hi
             refine .sl z _ _ _ _ (λi j=>u (l+i) j) (by simp;omega) (by omega) (λcs hcs=>hzz cs ?_) ?_ (λi j cs c hi hj=>hr _ j cs c (hget i cs hi) hj)
             ·grind
             · by_cases he:(es.take hh).drop l=[]
               ·exact .inl he
               · refine .inr ?_;rcases ha with h0|⟨ad,rfl,hS,hc⟩
                 ·subst h0;simp at he
                 · have hlt:l<hh:=by
                    rcases ziu l hh with h'|h'
                    ·exact h'
                    ·simp_all
                   refine⟨ad.add (l*z),by grind,by rw[zmn];exact hS,λi j cs c hi hj=>?_⟩;have:=hc (l+i) j cs c (hget i cs hi) hj;rw[Go.Deep.add_add]
                   grind
       ·cases h
     ·cases h
   · rename_i sz b z off n hs;split at h
     · rename_i l hh hl1 hh1;split at h
       · rename_i hz;obtain⟨rfl,h1,h2⟩:=hz;injection h with h;subst h
         cases hx with
         |c h=>cases h
         |row0 _ _ hd hk =>
           obtain rfl:hh=0:=by omega
           obtain rfl:l=0:=by omega
           have hb:=zx4 (P:=P) (w:=w) (len:=0) (cap:=0) (l:=0) (h:=0) (lo:=lo') (hi:=hi')
            (by rcases znx hl1 hlo with⟨_,a,b⟩|⟨k,a⟩;exact .inl ⟨a,b⟩;exact .inr ⟨k,a⟩)
            (by rcases znx hh1 hhi with⟨_,a,b⟩|⟨k,a⟩;exact .inl ⟨a,by omega⟩;exact .inr ⟨k,a⟩) (by omega) (by omega) (by omega)
           refine⟨.slice none 0 0,?_,.row0 b z hd hk,rfl,rfl,rfl,rfl⟩;simp[Instr.sliceAt,run_underlying hu,Instr.slice,hb,zd7 hs]
         |row _ _ _ _ g c off' cap hd hk hnc ho hc =>
           have hb:=zx4 (P:=P) (w:=w) (len:=n) (cap:=cap) (l:=l) (h:=hh) (lo:=lo') (hi:=hi')
            (by rcases znx hl1 hlo with⟨_,a,b⟩|⟨k,a⟩;exact .inl ⟨a,b⟩;exact .inr ⟨k,a⟩)
            (by rcases znx hh1 hhi with⟨_,a,b⟩|⟨k,a⟩;exact .inl ⟨a,by omega⟩;exact .inr ⟨k,a⟩) h1 (by omega) hnc
           by_cases hcl:cap=l
           · refine⟨.slice (some ⟨g,off',none⟩) (hh-l) (cap-l),?_,.row b z (off+l) (hh-l) g c off' (cap-l) hd hk (by omega) ?_ ?_,rfl,rfl,rfl,rfl⟩
             ·subst hcl;simp[Instr.sliceAt,run_underlying hu,Instr.slice,hb,zd7 hs]
             ·grind
             omega
           · refine⟨.slice (some ⟨g,off'+l*z,none⟩) (hh-l) (cap-l),?_,.row b z (off+l) (hh-l) g c (off'+l*z) (cap-l) hd hk (by omega) ?_ ?_,rfl,rfl,rfl,rfl⟩
             ·simp[Instr.sliceAt,run_underlying hu,Instr.slice,hb,zd7 hs,hcl,add_at]
             ·grind
             omega
       ·cases h
     ·cases h
   ·cases h
 ·cases h
end
end Go.Ab
namespace Go.Ab
open Go.RowKit
variable[Dr]
theorem zFF{P:Program}{w w':World}{at_ k:Addr}{u:TypeId}{v:Value}{b:Bool}{l:List Addr}(h:w.viewStore P at_ u k v b=.ok (w',l)):w'.drawn=w.drawn:=by
 unfold World.viewStore at h;simp only[bind,Except.bind,pure,Except.pure]at h
 repeat' split at h
 all_goals(cases h<;>rfl)
theorem zAe{α:Type}:∀(q:Ask α) (w:World),w.drawn<=(w.ask q).2.drawn
 |.done _,_=>zaX _
 |.ask what range k,w=>by
   unfold World.ask;simp only;split
   ·exact zAe _ _
   ·exact zbP (Nat.le_succ _) (zAe (k _) { w with drawn:=w.drawn+1 })
theorem sys_drawn(w:World)(c:Sys):w.drawn<=(w.sys c).2.drawn:=by
 have:=zAe (Kernel.perform c w.os) w;unfold World.sys
 grind
theorem run_drawn{P:Program}{α:Type}(m:Sem α):∀{w:World} {a:α} {w':World},m.run P w=.ok a w'->w.drawn<=w'.drawn:=by
 induction m with
 |pure a=>simp_all
 |load m a k ih =>
   intro w b w' h;simp only[Sem.run]at h
   grind
 |store m a v k ih =>
   intro w b w' h
   have key:(match w.cell? a with
   |some _=>if w.frozen? a then Result.halt (.unsupported (.unsafePointer "a write to bytes that a string shares")) w else k.run P (w.setCell a v)
   |none=>match w.farStore P a v (m==Mode.atomic)with
     |.ok (w,_)=>k.run P w
     |.error h=>.halt h w)=.ok b w'->w.drawn<=w'.drawn:=by
     intro h;split at h
     · split at h
       ·cases h
       ·have:=ih h;exact this
     · split at h
       · rename_i hf;have:=ih h;unfold World.farStore at hf;split at hf
         · split at hf
           ·rename_i hv;injection hf with hf;rw[hf]at hv;rw[<-zFF hv];exact this
           ·cases hf
         ·cases hf
       ·cases h
   cases v<;>simp only[Sem.run]at h<;>first|exact key h|cases h
 |new o k ih=>intro w b w' h;simp only[Sem.run]at h;grind
 |shape r k ih=>intro w b w' h;simp only[Sem.run]at h;exact ih _ h
 |freeze a n k ih =>
   intro w b w' h;simp only[Sem.run]at h;have:=ih h;unfold World.freeze at this
   grind
 |frozen a k ih=>intro w b w' h;simp only[Sem.run]at h;exact ih _ h
 |getObj r k ih =>
   intro w b w' h;simp only[Sem.run]at h
   grind
 |setObj r o k ih =>
   intro w b w' h;simp only[Sem.run]at h
   grind
 |choose q k ih =>
   intro w b w' h;simp only[Sem.run]at h
   grind
 |sys c k ih=>intro w b w' h;simp only[Sem.run]at h;exact zbP (sys_drawn w c) (ih _ h)
 |program k ih=>intro w b w' h;simp only[Sem.run]at h;exact ih _ h
 |mark m k ih=>intro w b w' h;simp only[Sem.run]at h;exact ih h
 |halt h=>simp_all
def ids(l:List (Nat×Ent)):List Nat:=l.map (·.1)
def D1(D:Nat->Prop)(r:Res):Nat->Prop:=λb=>(D b/\r.kill≠some b/\b ∉ r.frz)\/b∈ids r.set
structure EffAt(S:Nat->Prop)(κ:Kap)(D:Nat->Prop)(w:World)(S':Nat->Prop)(κ':Kap)(r:Res)(y:Value)(w':World):Prop where
 os:w'.os=w.os
 tape:w'.tape=w.tape
 output:OutD w w'
 size:w.heap.size<=w'.heap.size
 blk:∀g,g<w.heap.size->(∀b c,(b∈ids r.set\/r.kill=some b)->D b->κ b≠some (g,c))->w'.heap[g]?=w.heap[g]?
 sup:∀g,S g->S' g
 snew:∀g,S' g->S g\/w.heap.size<=g\/∃b c,(b∈r.frz\/r.kill=some b\/b∈r.re)/\D b/\κ b=some (g,c)
 slt:∀g,S' g->g<w'.heap.size
 sfrz:∀b∈r.frz,∀g c,κ b=some (g,c)->S' g
 kold:∀b,D b->b ∉ r.re->κ' b=κ b
 kout:∀b,b ∉ ids r.set->κ' b=κ b
 knew:∀b,(D b->b∈r.re)->b∈ids r.set->∀g c,κ' b=some (g,c)->w.heap.size<=g\/∃b0 c0,(r.kill=some b0\/b0∈r.re)/\D b0/\κ b0=some (g,c0)
 one:∀b b',(D b->b∈r.re)->(D b'->b'∈r.re)->b∈ids r.set->b'∈ids r.set->∀g c c',κ' b=some (g,c)->κ' b'=some (g,c')->b=b'
 res:∀b∈r.re,b∈ids r.set
 ents:∀b ent,(b,ent)∈r.set->EntAt S' κ' (D1 D r) w' (κ' b) ent
 val:VRel S' κ' (D1 D r) w' r.val y
section
variable{P:Program}{S:Nat->Prop}{κ:Kap}{D:Nat->Prop}{w:World}
theorem EffAt.still{r:Res}{y:Value}(hS:∀g,S g->g<w.heap.size)(h:VRel S κ D w r.val y)(h1:r.set=[])(h2:r.kill=none)(h3:r.frz=[])(h4:r.re=[]):EffAt S κ D w S κ r y w where
 os:=rfl
 tape:=rfl
 output:=.of
 size:=zaX _
 blk:=λ_ _ _=>rfl
 sup:=λ_ h=>h
 snew:=λ_ h=>.inl h
 slt:=hS
 sfrz:=λb hb=>by grind
 kold:=λ_ _ _=>rfl
 kout:=λ_ _=>rfl
 knew:=λb _ hb=>by simp[ids,h1]at hb
 one:=λb b' _ _ hb=>by simp[ids,h1]at hb
 res:=λb hb=>by grind
 ents:=λb ent hb=>by simp[h1]at hb
 val:=h.mono (λ_ h=>h) (λ_ _=>rfl) (λb hb=>.inl ⟨hb,by simp[h2],by simp[h3]⟩) (λ_ _=>rfl)
def zms(R:AV->Value->Prop)(cs:List AV)(A:Array Value):Prop:=
 A.size=cs.length/\(∀x∈A,x.oneCell'=true)/\∀(j:Nat) (c:AV) (x:Value),cs[j]?=some c->A[j]?=some x->R c x
theorem EffAt.newBlock{d:Nat}{ent:Ent}{cells:Array Value}{c:Nat}{r:Res}{y:Value}(hS:∀g,S g->g<w.heap.size)(hd:¬D d)(hset:r.set=[(d,ent)])(hk:r.kill=none)(hf:r.frz=[])(hcl:ent.cell)
  (hz:∀cs∈ent.es,cs.length=ent.z) (hsz:cells.size=c*ent.z) (hc:ent.es.length<=c) (hm:c<=ent.cap)
  (hcell:∀(i j:Nat) (cs:List AV) (a:AV),ent.es[i]?=some cs->cs[j]?=some a->∃u,cells[i*ent.z+j]?=some u/\u.oneCell'=true/\(ent.box=true->VRel S κ D w a u)/\(ent.box=false->CRel S w a u))
  (hv:∀(S':Nat->Prop) (κ':Kap) (D':Nat->Prop) (w':World),D' d->κ' d=some (w.heap.size,c)->VRel S' κ' D' w' r.val y) (hre:r.re=[]:=by rfl):EffAt S κ D w S (λb=>if b=d then some (w.heap.size,c)else κ b) r y (w.alloc (.cells cells ent.e)):=by
 have hold:∀g,g<w.heap.size->(w.alloc (.cells cells ent.e)).heap[g]?=w.heap[g]?:=λg hg=>Below.heap_alloc w _ g hg
 have hDD:∀b,D b->D1 D r b:=λb hb=>.inl ⟨hb,by simp[hk],by simp[hf]⟩
 have hkk:∀b,D b->(if b=d then some (w.heap.size,c)else κ b)=κ b:=λb hb=>if_neg (λe=>hd (by subst e;exact hb))
 exact{
  os:=rfl
  tape:=rfl
  output:=.of
  size:=by simp
  blk:=λg hg _=>hold g hg
  sup:=λ_ h=>h
  snew:=λ_ h=>.inl h
  slt:=λg hg=>by grind
  sfrz:=λb hb=>by grind
  kold:=λb hb _=>hkk b hb
  kout:=λb hb=>if_neg (λe=>hb (by simp[ids,hset,e]))
  knew:=λb _ hb g c' h=>by
   simp[ids,hset]at hb
   simp_all
  one:=λb b' _ _ h1 h2 _ _ _ _ _=>by simp[ids,hset]at h1 h2;rw[h1,h2]
  res:=λb hb=>by grind
  ents:=λb e hb=>by simp[hset]at hb;obtain⟨rfl,rfl⟩:=hb;refine EntAt.of hcl ⟨hz,?_⟩;simp only[if_true];refine⟨cells,heap_alloc_new w _,hsz,hc,hm,λh=>by have:=hS _ h;omega,λi j cs a hi hj=>?_⟩;obtain⟨u,h1,h2,h3,h4⟩:=hcell i j cs a hi hj;exact⟨u,h1,h2,λhb=>(h3 hb).mono (λ_ h=>h) (λg hg=>hold g (hS g hg)) hDD hkk,λhb=>(h4 hb).mono (λ_ h=>h) (λg hg=>hold g (hS g hg))⟩
  val:=hv _ _ _ _ (.inr (by simp[ids,hset])) (by simp) }
theorem zja{t:TypeId}{zero:List AV}(h:zeroB P t=some zero):∃(i:TypeInfo) (z:Value),P.info? t=some i/\i.zero=some z/\zero=z.cells.toList.map .v:=by
 unfold zeroB at h
 cases hi:P.info? t with
 |none=>simp[hi]at h
 |some i=>grind
theorem zjI{t:TypeId}{i:TypeInfo}{z:Value}(hi:P.info? t=some i)(hz:i.zero=some z):(zeroValue t).run P w=.ok z w:=by simp[zeroValue,typeInfo,hi,hz]
theorem znb{z:Value}(h:allL AV.one (z.cells.toList.map .v)=true):zms (CRel S w) (z.cells.toList.map .v) z.cells:=by
 refine⟨by simp,λx hx=>?_,λj c x hc hx=>?_⟩
 ·exact zgZ h (.v x) (by simpa using hx)
 ·simp at hc;obtain⟨q,hq,rfl⟩:=hc;rw[hq]at hx;injection hx with hx;subst hx;exact .v _
theorem zFA{cs new:List AV}{o k:Nat}(h:o+new.length<=cs.length):(splice cs o new)[k]?=if k<o then cs[k]? else if k<o+new.length then new[k-o]? else cs[k]?:=by
 unfold splice
 grind
theorem zp3{cs new:List AV}{o:Nat}(h:o+new.length<=cs.length):(splice cs o new).length=cs.length:=by unfold splice;simp;omega
theorem setAllA{off:Nat}:∀(l:List Value) (s:Nat) (A:Array Value),off+s+l.length<=A.size->let B:=(l.zipIdx s).foldl (λcs (p:Value×Nat)=>cs.setIfInBounds (off+p.2) p.1) A
  B.size=A.size/\∀k,B[k]?=if off+s<=k/\k<off+s+l.length then l[k-(off+s)]? else A[k]?
 |[],s,A,_=>by simp;omega
 |x::l,s,A,h=>by
   simp only[List.zipIdx_cons,zcJ];obtain⟨h1,h2⟩:=setAllA (off:=off) l (s+1) (A.setIfInBounds (off+s) x) (by simp at h ⊢;omega)
   grind
theorem zt8{place:Nat->Option (Nat×Nat)}{R:AV->Value->Prop}:∀(ps:List (Nat×AV)) (vs:List (Nat×Value)) (cs cs':List AV) (A:Array Value),fillL place ps cs=some cs'->zms R cs A->vs.length=ps.length->(∀(k:Nat) (p:Nat×AV) (q:Nat×Value),ps[k]?=some p->vs[k]?=some q->p.1=q.1/\(allL AV.one p.2.cells=true->zms R p.2.cells q.2.cells))->∃A',Instr.fill place A vs=some A'/\zms R cs' A'
 |[],[],cs,cs',A,h,hA,_,_=>by simp[fillL]at h;subst h;exact⟨A,rfl,hA⟩
 |[],_::_,_,_,_,_,_,hl,_=>by simp at hl
 |_::_,[],_,_,_,_,_,hl,_=>by simp at hl
 |(i,a)::ps,(i',x)::vs,cs,cs',A,h,hA,hl,hp=>by
   obtain⟨e,hx⟩:=hp 0 (i,a) (i',x) rfl rfl;simp at e;subst e;simp only[fillL]at h;split at h
   · rename_i off sz hpl;split at h
     · rename_i hc;obtain⟨h1,h2,h3⟩:=hc;obtain⟨hxs,hx1,hxr⟩:=hx h3;simp only at hxs hx1 hxr;have hlen:off+x.cells.size<=A.size:=by rw[hA.1,hxs];omega
       have key:=setAllA (off:=off) x.cells.toList 0 A (by simpa using hlen);simp only[zer]at key;obtain⟨k1,k2⟩:=key
       have hfill:Instr.fill place A ((i,x)::vs)=Instr.fill place ((x.cells.toList.zipIdx 0).foldl (λcs (p:Value×Nat)=>cs.setIfInBounds (off+p.2) p.1) A) vs:=by
        have hcond:(decide (x.cells.size≠sz)||decide (off+x.cells.size > A.size))=false:=by simp;omega
        simp only[Instr.fill,hpl];rw[if_neg (by simpa using hcond)];congr 1;rw[<-Array.foldl_toList];simp[Array.toList_zipIdx]
       rw[hfill];refine zt8 ps vs _ cs' _ h ⟨?_,?_,?_⟩ (by simpa using hl) (λk p q hk hq=>hp (k+1) p q (by simpa using hk) (by simpa using hq))
       ·rw[k1,hA.1,zp3 (by omega)]
       · intro y hy;obtain⟨k,hk⟩:=zfs.1 hy;rw[k2]at hk;split at hk
         ·grind
         ·exact hA.2.1 y (by grind)
       · intro j c y hj hy;rw[zFA (by omega)]at hj;rw[k2]at hy;have hxl:x.cells.toList.length=a.cells.length:=by simpa using hxs
         by_cases h4:j<off
         ·rw[if_pos h4]at hj;rw[if_neg (by omega)]at hy;exact hA.2.2 j c y hj hy
         · rw[if_neg h4]at hj;by_cases h5:j<off+a.cells.length
           ·grind
           ·rw[if_neg h5]at hj;rw[if_neg (by omega)]at hy;exact hA.2.2 j c y hj hy
     ·cases h
   ·cases h
theorem fill_len{place:Nat->Option (Nat×Nat)}:∀{ps:List (Nat×AV)} {cs cs':List AV},fillL place ps cs=some cs'->cs'.length=cs.length
 |[],cs,cs',h=>by simp[fillL]at h;rw[h]
 |(i,a)::ps,cs,cs',h=>by
   simp only[fillL]at h;split at h
   · split at h
     ·rename_i hc;rw[fill_len h,zp3 (by omega)]
     ·cases h
   ·cases h
theorem mapM_run{α β:Type}(f:α->Sem β)(g:α->β):∀(l:List α) ,(∀a∈l,∀w,(f a).run P w=.ok (g a) w)->(l.mapM f).run P w=.ok (l.map g) w
 |[],_=>by simp
 |a::l,h=>by simp only[List.mapM_cons,Sem.run_bind,h a (by simp),Result.andThen_ok,mapM_run f g l (λb hb=>h b (by simp[hb]))];simp
theorem zAd:∀{l:List Field},allSz P l=true->∀f∈l,(szB P f.type).isSome=true
 |[],_,f,h=>by cases h
 |b::l,h,f,hm=>by
   simp only[allSz,zaO]at h
   cases za4.1 hm with
   |inl e=>subst e;exact h.1
   |inr e=>exact zAd h.2 f e
theorem places_run{fs:Array Field}(h:allSz P fs.toList=true):(fs.mapM λ(f:Field)=>(do pure (f.offset,<-sizeOf f.type):Sem (Nat×Nat))).run P w=.ok (fs.map λ(f:Field)=>(f.offset,(szB P f.type).getD 0)) w:=by
 have hl:=mapM_run (P:=P) (w:=w) (λf:Field=>(do pure (f.offset,<-sizeOf f.type):Sem (Nat×Nat))) (λf=>(f.offset,(szB P f.type).getD 0)) fs.toList (λf hf w'=>by
  have hs:=zAd h f hf
  cases hq:szB P f.type with
  |none=>simp[hq]at hs
  |some n=>simp[zd7 hq])
 obtain⟨l⟩:=fs
 simp_all
theorem places_eq{fs:Array Field}(h:allSz P fs.toList=true):(λi=>(fs.map λ(f:Field)=>(f.offset,(szB P f.type).getD 0))[i]?)=places P fs:=by
 funext i;simp only[places,Array.getElem?_map]
 cases hf:fs[i]? with
 |none=>rfl
 |some f =>
   have hs:=zAd h f (by grind)
   grind
theorem zms.mono{R R':AV->Value->Prop}{cs:List AV}{A:Array Value}(h:zms R cs A)(hr:∀a x,R a x->R' a x):zms R' cs A:=
 ⟨h.1,h.2.1,λj c x a b=>hr _ _ (h.2.2 j c x a b)⟩
def ziR(ρ:Operand->Value)(ps:Array (Nat×Operand)):Array (Nat×Value):=ps.map λ(i,x)=>(i,ρ x)
theorem zA4{E:Operand->AV}{ρ:Operand->Value}{ps:Array (Nat×Operand)}(h:∀p∈ps,VRel S κ D w (E p.2) (ρ p.2)):∀(k:Nat) (p:Nat×AV) (q:Nat×Value),(ps.toList.map λp=>(p.1,E p.2))[k]?=some p->(ziR ρ ps).toList[k]?=some q->p.1=q.1/\(allL AV.one p.2.cells=true->zms (VRel S κ D w) p.2.cells q.2.cells):=by intro k p q hp hq;simp[ziR]at hp hq;obtain⟨i,x,hx,rfl⟩:=hp;obtain⟨i',x',hx',rfl⟩:=hq;rw[hx]at hx';injection hx' with hx';injection hx' with e1 e2;subst e1;subst e2;exact⟨rfl,λh1=>zwl h1 (h (i,x) (zgW hx))⟩
theorem zIg{t:TypeId}{E:Operand->AV}{ρ:Operand->Value}{ps:Array (Nat×Operand)}{r:Res}(h:aBuild P t (ps.toList.map λp=>(p.1,E p.2))=some r)
  (hp:∀p∈ps,VRel S κ D w (E p.2) (ρ p.2)):∃y,(Instr.build t (ziR ρ ps)).run P w=.ok y w/\VRel S κ D w r.val y/\r.set=[]/\r.kill=none/\r.frz=[]/\r.re=[]:=by
 unfold aBuild at h;split at h
 · rename_i zero fs hz hu;split at h
   · rename_i hall;obtain⟨hall,hz1⟩:=hall;split at h
     ·rename_i cs hf;injection h with h;subst h;obtain⟨i,z,hi,hzz,rfl⟩:=zja hz;obtain⟨A',h1,h2⟩:=zt8 (R:=VRel S κ D w) _ (ziR ρ ps).toList _ cs z.cells hf ((znb hz1).mono λ_ _ h=>.c h) (by simp[ziR]) (zA4 hp);refine⟨.agg A',?_,.agg cs A' h2.1 h2.2.1 h2.2.2,rfl,rfl,rfl,rfl⟩;simp only[Instr.build,Sem.run_bind,zjI hi hzz,Result.andThen_ok,run_underlying hu,places_run hall,places_eq hall,h1,Sem.run_pure]
     ·cases h
   ·cases h
 · rename_i zero n e hz hu;split at h
   case isFalse=>cases h
   rename_i hz1;split at h
   · rename_i sz hs;split at h
     ·rename_i cs hf;injection h with h;subst h;obtain⟨i,z,hi,hzz,rfl⟩:=zja hz;obtain⟨A',h1,h2⟩:=zt8 (R:=VRel S κ D w) _ (ziR ρ ps).toList _ cs z.cells hf ((znb hz1).mono λ_ _ h=>.c h) (by simp[ziR]) (zA4 hp);refine⟨.agg A',?_,.agg cs A' h2.1 h2.2.1 h2.2.2,rfl,rfl,rfl,rfl⟩;simp only[Instr.build,Sem.run_bind,zjI hi hzz,Result.andThen_ok,run_underlying hu,zd7 hs,h1,Sem.run_pure]
     ·cases h
   ·cases h
 ·cases h
theorem zyK{zero:List AV}:∀(n k:Nat),k<n*zero.length->(repL zero n)[k]?=zero[k % zero.length]?
 |0,k,h=>by simp at h
 |n+1,k,h=>by
   simp only[repL];rw[zci];split
   ·rename_i hk;rw[zeA hk]
   ·rename_i hk;rw[zyK n (k-zero.length) (by grind)];congr 1;rw[Nat.mod_eq_sub_mod (a:=k) (by omega)]
theorem zwG{zero:List AV}:∀n,(repL zero n).length=n*zero.length
 |0=>by simp[repL]
 |n+1=>by simp[repL,zwG n,zdD];omega
theorem zqx{z:Nat}:∀(n:Nat) (cs:List AV) (i:Nat),i<n->(chunk z n cs)[i]?=some ((cs.drop (i*z)).take z)
 |0,_,_,h=>by omega
 |n+1,cs,0,_=>by simp[chunk]
 |n+1,cs,i+1,h=>by
   simp only[chunk,zfg];rw[zqx n (cs.drop z) i (by omega),List.drop_drop]
   grind
theorem zkc{z:Nat}:∀(n:Nat) (cs:List AV),(chunk z n cs).length=n
 |0,_=>rfl
 |n+1,cs=>by simp[chunk,zkc n]
theorem zDP{z:Value}{n sz:Nat}(hz:z.cells.size=sz)(hpos:0<sz)(h1:allL AV.one (z.cells.toList.map .v)=true):zms (CRel S w) (repL (z.cells.toList.map .v) n) (madeCells z.cells (n*sz)):=by
 obtain⟨_,c1,c2⟩:=znb (S:=S) (w:=w) h1
 have hget:∀j,j<n*sz->(madeCells z.cells (n*sz))[j]?=z.cells[j % sz]?:=by
  intro j hj;have:j % sz<z.cells.size:=by rw[hz];exact zix _ hpos
  rw[zaU this];simp[madeCells,hj,hz];exact getElem!_pos z.cells (j % sz) this
 refine⟨by rw[size_madeCells,zwG];simp[hz],λx hx=>?_,λj c x hc hx=>?_⟩
 · obtain⟨k,hk⟩:=zfs.1 hx
   have hlt:k<n*sz:=by
    have:=(zcM.1 hk).1
    rwa[size_madeCells]at this
   grind
 · have hlt:j<n*sz:=by
    have:=(zcM.1 hx).1
    rwa[size_madeCells]at this
   rw[hget j hlt]at hx;rw[zyK n j (by simpa[hz]using hlt)]at hc
   grind
theorem zvD{t e:TypeId}{len sz:Nat}{z:Value}{i:TypeInfo}{cs:List AV}{E:Operand->AV}{ρ:Operand->Value}{ps:Array (Nat×Operand)}
  (hu:P.underlying t=some (.slice e)) (hs:szB P e=some sz) (hi:P.info? e=some i) (hzz:i.zero=some z) (hpos:0<sz) (hzs:z.cells.size=sz) (hlen:len*sz<=65536)
  (hz1:allL AV.one (z.cells.toList.map .v)=true) (hf:fillL (λi=>some (i*sz,sz)) (ps.toList.map λp=>(p.1,E p.2)) (repL (z.cells.toList.map .v) len)=some cs) (hC:allL (AV.isC 4) cs=true)
  (hp:∀p∈ps,VRel S κ D w (E p.2) (ρ p.2)):∃A':Array Value,(Instr.buildSlice t len (ziR ρ ps)).run P w=.ok (.slice (some ⟨w.heap.size,0,none⟩) len len) (w.alloc (.cells A' e))/\A'.size=len*sz/\(∀c∈chunk sz len cs,c.length=sz)/\∀(i j:Nat) (c:List AV) (a:AV),(chunk sz len cs)[i]?=some c->c[j]?=some a->∃u,A'[i*sz+j]?=some u/\u.oneCell'=true/\CRel S w a u:=by
 have hmade:=zDP (S:=S) (w:=w) (n:=len) hzs hpos hz1;obtain⟨A',h1,h2⟩:=zt8 (R:=VRel S κ D w) _ (ziR ρ ps).toList _ cs (madeCells z.cells (len*sz)) hf (hmade.mono λ_ _ h=>.c h) (by simp[ziR]) (zA4 hp)
 have hcl:cs.length=len*sz:=by
  have:=(fill_len hf)
  rw[this,zwG];simp[hzs]
 refine⟨A',?_,by rw[h2.1,hcl],?_,?_⟩
 · have hn:¬(len*sz > 2 ^ 24):=by omega
   by_cases h0:len*sz=0
   · have hm0:madeCells z.cells (len*sz)=#[]:=by rw[h0];simp[madeCells]
     have hr0:∀f:Nat->Value,(Array.range 0).map f=#[]:=λf=>by grind
     rw[hm0]at h1;simp only[Instr.buildSlice,Sem.run_bind,run_underlying hu,Result.andThen_ok,zd7 hs,h0,if_true,newRow];simp[hr0,h1]
   ·have:(Array.range (len*sz)).map (z.cells[· % z.cells.size]!)=madeCells z.cells (len*sz):=rfl;simp only[Instr.buildSlice,Sem.run_bind,run_underlying hu,Result.andThen_ok,zd7 hs,hn,if_false,h0,Sem.run_pure,zjI hi hzz,newRow,run_newObj,this,h1];rfl
 · intro c hc;obtain⟨k,hk⟩:=zcG.1 hc
   have hklt:k<len:=by
    have:=(zam.1 hk).1
    rwa[zkc]at this
   rw[zqx len cs k hklt]at hk;injection hk with hk;subst hk
   have:k*sz+sz<=len*sz:=by rw[<-zgv];exact zbw _ hklt
   simp;omega
 · intro i j c a hi' hj
   have hklt:i<len:=by have:=(zam.1 hi').1;simpa[zkc]using this
   rw[zqx len cs i hklt]at hi';injection hi' with hi';subst hi';rw[zch]at hj;split at hj
   case isFalse=>cases hj
   rw[zb4]at hj;have hjl:i*sz+j<A'.size:=by rw[h2.1];exact(zam.1 hj).1
   refine⟨A'[i*sz+j],zaU hjl,h2.2.1 _ (zfc hjl),?_⟩;exact zkY 4 (zgZ hC a (zaq hj)) (h2.2.2 _ a _ hj (zaU hjl))
theorem zBA{t:TypeId}{d len:Nat}{E:Operand->AV}{ρ:Operand->Value}{ps:Array (Nat×Operand)}{r:Res}(hS:∀g,S g->g<w.heap.size)(hd:¬D d)
  (h:zpz P d t len (ps.toList.map λp=>(p.1,E p.2))=some r) (hp:∀p∈ps,VRel S κ D w (E p.2) (ρ p.2)):∃y w' κ',(Instr.buildSlice t len (ziR ρ ps)).run P w=.ok y w'/\EffAt S κ D w S κ' r y w':=by
 unfold zpz at h;split at h
 case h_2=>cases h
 rename_i e hu;split at h
 case h_2=>cases h
 rename_i sz zero hs hz;split at h
 case isFalse=>cases h
 rename_i hc;obtain⟨hpos,hzl,hlen,hz1⟩:=hc;split at h
 case h_2=>cases h
 rename_i cs hf;split at h
 case isFalse=>cases h
 rename_i hC;injection h with h;subst h;obtain⟨i,z,hi,hzz,rfl⟩:=zja hz;obtain⟨A',hrun,hsz',hcz,hcell⟩:=zvD hu hs hi hzz hpos (by simpa using hzl) hlen hz1 hf hC hp;refine⟨_,_,_,hrun,EffAt.newBlock (d:=d) (ent:={ z:=sz,e:=e,es:=chunk sz len cs,box:=false }) (c:=len) hS hd rfl rfl rfl (.inr (by show 0<sz;omega)) hcz hsz' (by simp[zkc]) ?_ ?_ ?_⟩
 ·have:len<=len*sz:=zeY _ hpos;show _<=maxLen;unfold maxLen;omega
 ·simp_all
 ·intro S' κ' D' w' hD hk;exact .row d sz 0 len w.heap.size len 0 len hD hk (zaX _) (.inl (by simp)) (λ_=>rfl)
theorem aLit_sound{t:TypeId}{len:Nat}{E:Operand->AV}{ρ:Operand->Value}{ps:Array (Nat×Operand)}{r:Res}(hS:∀g,S g->g<w.heap.size)
  (h:aLit P t len (ps.toList.map λp=>(p.1,E p.2))=some r) (hp:∀p∈ps,VRel S κ D w (E p.2) (ρ p.2)):∃y w' S',(Instr.buildSlice t len (ziR ρ ps)).run P w=.ok y w'/\EffAt S κ D w S' κ r y w':=by
 unfold aLit at h;split at h
 case h_2=>cases h
 rename_i e hu;split at h
 case h_2=>cases h
 rename_i sz zero hs hz;split at h
 case isFalse=>cases h
 rename_i hc;obtain⟨hpos,hzl,hlen,hz1⟩:=hc;split at h
 case h_2=>cases h
 rename_i cs hf;split at h
 case isFalse=>cases h
 rename_i hC;injection h with h;subst h;obtain⟨i,z,hi,hzz,rfl⟩:=zja hz;obtain⟨A',hrun,hsz',hcz,hcell⟩:=zvD hu hs hi hzz hpos (by simpa using hzl) hlen hz1 hf hC hp;have hold:∀g,g<w.heap.size->(w.alloc (.cells A' e)).heap[g]?=w.heap[g]?:=λg hg=>Below.heap_alloc w _ g hg
 refine⟨_,_,λg=>S g\/g=w.heap.size,hrun,{
  os:=rfl
  tape:=rfl
  output:=.of
  size:=by simp
  blk:=λg hg _=>hold g hg
  sup:=λ_ h=>.inl h
  snew:=λg h=>h.imp id (λe=>.inl (by omega))
  slt:=λg hg=>by
   rcases hg with h|h
   ·grind
   ·simp;omega
  sfrz:=λb hb=>by cases hb
  kold:=λ_ _ _=>rfl
  kout:=λ_ _=>rfl
  knew:=λb _ hb=>by simp[ids]at hb
  one:=λb b' _ _ hb=>by simp[ids]at hb
  res:=λb hb=>by cases hb
  ents:=λb ent hb=>by simp at hb
  val:=.c (.sl sz _ (some ⟨w.heap.size,0,none⟩) len len (λi j=>(A'[i*sz+j]?).getD undef) (by rw[zkc]) (zaX _) hcz (.inr ⟨_,rfl,.inr rfl,λi j c a hi' hj=>?_⟩) (λi j c a hi' hj=>?_)) }⟩
 ·obtain⟨u,u1,u2,u3⟩:=hcell i j c a hi' hj;rw[add_at,cell_of_row _ _ _ A' e (0,0) (heap_alloc_new w _),zaY,u1];exact⟨rfl,u2⟩
 ·obtain⟨u,u1,u2,u3⟩:=hcell i j c a hi' hj;rw[u1];exact u3.mono (λ_ h=>.inl h) (λg hg=>hold g (hS g hg))
theorem zJD{t:TypeId}{d:Nat}{l c:AV}{x y:Value}{r:Res}(hS:∀g,S g->g<w.heap.size)(hd:¬D d)(h:aMake P d t l c=some r)(hx:VRel S κ D w l x)(hy:VRel S κ D w c y):∃q w' κ',(Instr.makeSlice t x y).run P w=.ok q w'/\EffAt S κ D w S κ' r q w':=by
 unfold aMake at h;split at h
 case h_2=>cases h
 rename_i kl n kc n';rw[hx.v_inv,hy.v_inv];split at h
 case h_2=>cases h
 rename_i e hu;split at h
 case h_2=>cases h
 rename_i sz zero i hs hz hi;split at h
 case isFalse=>cases h
 rename_i hc;obtain⟨rfl,hn,hpos,hzl,hz1,hby⟩:=hc;injection h with h;subst h;obtain⟨i',z,hi',hzz,rfl⟩:=zja hz;rw[hi]at hi';injection hi' with hi';subst hi';have hzs:z.cells.size=sz:=by simpa using hzl
 have hsz:i.size=sz:=by simpa[szB,hi]using hs
 have hby':(i.bytes:Int)*n<=281474976710656:=by have h1:n.toNat*i.bytes<=1099511627776:=zbP (zhy _ (by omega)) hby;have h2:((n.toNat*i.bytes:Nat):Int)<=((1099511627776:Nat):Int):=Int.ofNat_le.2 h1;rw[Int.natCast_mul,zhV hn,Int.mul_comm]at h2;omega
 have hnb:n.toNat<=1099511627776:=zbP (zeY _ (by omega)) hby;have hrun:=run_make (P:=P) w t e i z hu hi hzz kl kc n n hn (zf1 _) hby' (by omega);rw[hsz]at hrun;have hmade:=zDP (S:=S) (w:=w) (n:=n.toNat) hzs hpos hz1;refine⟨_,_,_,hrun,EffAt.newBlock (d:=d) (ent:={ z:=sz,e:=e,es:=List.replicate n.toNat (nrmL P (zj5 P 8 e) (z.cells.toList.map .v)),box:=false }) (c:=n.toNat) hS hd rfl rfl rfl (.inr (by show 0<sz;omega)) ?_ ?_ ?_ ?_ ?_ ?_⟩
 ·intro cs hcs;rw[ze5 hcs];simpa[zlD]using hzs
 ·simp[size_madeCells]
 ·simp
 ·show _<=maxLen;unfold maxLen;omega
 · intro k j cs a hk hj;rw[zgY]at hk;split at hk
   case isFalse=>cases hk
   rename_i hkl;injection hk with hk;subst hk;obtain⟨a0,hj0,hac⟩:=zst P _ _ j a hj
   have hnew:∀(x:Value),CRel S w a0 x->CRel S w a x:=by
    intro x hx;rcases hac with rfl|⟨t',rfl⟩
    ·exact hx
    ·exact zs3 hx
   have hjs:j<sz:=by have:=(zam.1 hj0).1;simpa[hzs]using this
   have hlt:k*sz+j<n.toNat*sz:=by have:(k+1)*sz<=n.toNat*sz:=zbw _ hkl;rw[zgv]at this;omega
   have hrep:(repL (z.cells.toList.map AV.v) n.toNat)[k*sz+j]?=some a0:=by
    rw[zyK _ _ (by simpa[hzs]using hlt)]
    have:(k*sz+j) % (z.cells.toList.map AV.v).length=j:=by simp only[zad,zc2,hzs];rw[zd4,zhq,zeA hjs]
    rw[this];exact hj0
   have hA:k*sz+j<(madeCells z.cells (n.toNat*sz)).size:=by rw[size_madeCells];exact hlt
   exact⟨_,zaU hA,hmade.2.1 _ (zfc hA),(λhb=>by cases hb),λ_=>hnew _ (hmade.2.2 _ a0 _ hrep (zaU hA))⟩
 ·intro S' κ' D' w' hD hk;rw[zcf];exact .row d sz 0 n.toNat w.heap.size n.toNat 0 n.toNat hD hk (zaX _) (.inl (by simp)) (λ_=>rfl)
theorem zIl{t:TypeId}{l c:AV}{x y:Value}{r:Res}(hS:∀g,S g->g<w.heap.size)(h:aMakeL P t l c=some r)(hx:VRel S κ D w l x)(hy:VRel S κ D w c y):∃q w' S',(Instr.makeSlice t x y).run P w=.ok q w'/\EffAt S κ D w S' κ r q w':=by
 unfold aMakeL at h;split at h
 case h_2=>cases h
 rename_i kl n kc n';rw[hx.v_inv,hy.v_inv];split at h
 case h_2=>cases h
 rename_i e hu;split at h
 case h_2=>cases h
 rename_i sz zero i hs hz hi;split at h
 case isFalse=>cases h
 rename_i hc;obtain⟨rfl,hn,hpos,hzl,hz1,hby⟩:=hc;injection h with h;subst h;obtain⟨i',z,hi',hzz,rfl⟩:=zja hz;rw[hi]at hi';injection hi' with hi';subst hi';have hzs:z.cells.size=sz:=by simpa using hzl
 have hsz:i.size=sz:=by simpa[szB,hi]using hs
 have hby':(i.bytes:Int)*n<=281474976710656:=by have h1:n.toNat*i.bytes<=1099511627776:=zbP (zhy _ (by omega)) hby;have h2:((n.toNat*i.bytes:Nat):Int)<=((1099511627776:Nat):Int):=Int.ofNat_le.2 h1;rw[Int.natCast_mul,zhV hn,Int.mul_comm]at h2;omega
 have hnb:n.toNat<=1099511627776:=zbP (zeY _ (by omega)) hby;have hrun:=run_make (P:=P) w t e i z hu hi hzz kl kc n n hn (zf1 _) hby' (by omega);rw[hsz]at hrun;have hmade:=zDP (S:=S) (w:=w) (n:=n.toNat) hzs hpos hz1
 have hcell:∀(k j:Nat) (cs:List AV) (a:AV),(List.replicate n.toNat (nrmL P (zj5 P 8 e) (z.cells.toList.map .v)))[k]?=some cs->cs[j]?=some a->∃u,(madeCells z.cells (n.toNat*sz))[k*sz+j]?=some u/\u.oneCell'=true/\CRel S w a u:=by
  intro k j cs a hk hj;rw[zgY]at hk;split at hk
  case isFalse=>cases hk
  rename_i hkl;injection hk with hk;subst hk;obtain⟨a0,hj0,hac⟩:=zst P _ _ j a hj
  have hnew:∀(x:Value),CRel S w a0 x->CRel S w a x:=by
   intro x hx;rcases hac with rfl|⟨t',rfl⟩
   ·exact hx
   ·exact zs3 hx
  have hjs:j<sz:=by have:=(zam.1 hj0).1;simpa[hzs]using this
  have hlt:k*sz+j<n.toNat*sz:=by have:(k+1)*sz<=n.toNat*sz:=zbw _ hkl;rw[zgv]at this;omega
  have hrep:(repL (z.cells.toList.map AV.v) n.toNat)[k*sz+j]?=some a0:=by
   rw[zyK _ _ (by simpa[hzs]using hlt)]
   have:(k*sz+j) % (z.cells.toList.map AV.v).length=j:=by simp only[zad,zc2,hzs];rw[zd4,zhq,zeA hjs]
   rw[this];exact hj0
  have hA:k*sz+j<(madeCells z.cells (n.toNat*sz)).size:=by rw[size_madeCells];exact hlt
  exact⟨_,zaU hA,hmade.2.1 _ (zfc hA),hnew _ (hmade.2.2 _ a0 _ hrep (zaU hA))⟩
 have hold:∀g,g<w.heap.size->(w.alloc (.cells (madeCells z.cells (n.toNat*sz)) e)).heap[g]?=w.heap[g]?:=λg hg=>Below.heap_alloc w _ g hg
 refine⟨_,_,λg=>S g\/g=w.heap.size,hrun,{
  os:=rfl
  tape:=rfl
  output:=.of
  size:=by simp
  blk:=λg hg _=>hold g hg
  sup:=λ_ h=>.inl h
  snew:=λg h=>h.imp id (λe=>.inl (by omega))
  slt:=λg hg=>by
   rcases hg with h|h
   ·grind
   ·simp;omega
  sfrz:=λb hb=>by cases hb
  kold:=λ_ _ _=>rfl
  kout:=λ_ _=>rfl
  knew:=λb _ hb=>by simp[ids]at hb
  one:=λb b' _ _ hb=>by simp[ids]at hb
  res:=λb hb=>by cases hb
  ents:=λb ent hb=>by simp at hb
  val:=.c (.sl sz _ (some ⟨w.heap.size,0,none⟩) n.toNat n.toNat (λi j=>((madeCells z.cells (n.toNat*sz))[i*sz+j]?).getD undef) (by simp) (zaX _) (λcs hcs=>by rw[ze5 hcs];simpa[zlD]using hzs) (.inr ⟨_,rfl,.inr rfl,λi j c a hi' hj=>?_⟩) (λi j c a hi' hj=>?_)) }⟩
 ·obtain⟨u,u1,u2,u3⟩:=hcell i j c a hi' hj;rw[add_at,cell_of_row _ _ _ (madeCells z.cells (n.toNat*sz)) e (0,0) (heap_alloc_new w _),zaY,u1];exact⟨rfl,u2⟩
 ·obtain⟨u,u1,u2,u3⟩:=hcell i j c a hi' hj;rw[u1];exact u3.mono (λ_ h=>.inl h) (λg hg=>hold g (hS g hg))
theorem aArr_frz{P:Program}{d:Nat}{t:TypeId}{zero:List AV}{r:Res}(h:aArr P d t zero=some r):r.frz=[]:=by
 unfold aArr at h
 grind
theorem arr_sound{t:TypeId}{d:Nat}{z:Value}{r:Res}(hS:∀g,S g->g<w.heap.size)(hd:¬D d)(h1:allL AV.one (z.cells.toList.map .v)=true)
  (hr:aArr P d t (z.cells.toList.map .v)=some r):∃q w' κ',(Instr.box t z).run P w=.ok q w'/\EffAt S κ D w S κ' r q w':=by
 unfold aArr at hr;split at hr
 case h_2=>cases hr
 rename_i len e hu;split at hr
 case h_2=>cases hr
 rename_i sz hs;split at hr
 case isFalse=>cases hr
 rename_i hc;obtain⟨h0,hlen,hmax⟩:=hc;injection hr with hr;subst hr;obtain⟨c1,c2,c3⟩:=znb (S:=S) (w:=w) h1
 have hel:∀(i:Nat) (cs:List AV),(chunk sz len (z.cells.toList.map .v))[i]?=some cs->i<len/\cs=((z.cells.toList.map AV.v).drop (i*sz)).take sz:=by
  intro i cs hi
  have hlt:i<len:=by
   have:=(zam.1 hi).1
   rwa[zkc]at this
  rw[zqx len _ i hlt]at hi;injection hi with hi;exact⟨hlt,hi.symm⟩
 refine⟨.pointer (some ⟨w.heap.size,0,none⟩),w.alloc (.cells z.cells t),_,?_,EffAt.newBlock (d:=d) (ent:={ z:=sz,e:=t,es:=chunk sz len (z.cells.toList.map .v),box:=false }) (c:=len) hS hd rfl rfl rfl (.inr (by show 0<sz;omega)) ?_ ?_ ?_ ?_ ?_ ?_⟩
 ·simp[Instr.box,newVar,newRow]
 · intro cs hcs;obtain⟨i,hi⟩:=zcG.1 hcs;obtain⟨hlt,rfl⟩:=hel i cs hi;rw[zeC,zhQ,hlen];have h2:(i+1)*sz<=len*sz:=zbw _ hlt
   grind
 ·rw[c1,hlen]
 ·simp[zkc]
 ·show _<=maxLen;unfold maxLen;omega
 ·grind
 ·intro S' κ' D' w' hD hk;have:=VRel.loc (S:=S') (w:=w') d sz 0 0 w.heap.size len hD hk;simpa using this
theorem zGv{t:TypeId}{d:Nat}{a:AV}{x:Value}{r:Res}(hS:∀g,S g->g<w.heap.size)(hd:¬D d)(h1:allL AV.one a.cells=true)
  (hr:r={ val:=.loc d a.cells.length 0 0,set:=[(d,{ z:=a.cells.length,e:=t,es:=[a.cells],box:=true })] }) (hx:VRel S κ D w a x):∃q w' κ',(Instr.box t x).run P w=.ok q w'/\EffAt S κ D w S κ' r q w':=by
 subst hr;obtain⟨c1,c2,c3⟩:=zwl h1 hx;refine⟨.pointer (some ⟨w.heap.size,0,none⟩),w.alloc (.cells x.cells t),_,?_,EffAt.newBlock (d:=d) (ent:={ z:=a.cells.length,e:=t,es:=[a.cells],box:=true }) (c:=1) hS hd rfl rfl rfl (.inl rfl) ?_ ?_ ?_ ?_ ?_ ?_⟩
 ·simp[Instr.box,newVar,newRow]
 ·simp_all
 ·simp[c1]
 ·simp
 ·exact zaX _
 · intro i j cs av hi hj
   cases i with
   |succ i=>simp at hi
   |zero =>
     simp at hi;subst hi;have hlt:j<x.cells.size:=by rw[c1];exact(zam.1 hj).1
     exact⟨x.cells[j],by simp[hlt],c2 _ (zfc hlt),λ_=>c3 j av _ hj (zaU hlt),(λhb=>by cases hb)⟩
 ·intro S' κ' D' w' hD hk;have:=VRel.loc (S:=S') (w:=w') d a.cells.length 0 0 w.heap.size 1 hD hk;simpa using this
end
end Go.Ab
end
