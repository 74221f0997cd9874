/- Stores, appends and copies. -/
import Derived.Test.YtlecnobdfhlmnaaGreatAb1
set_option linter.unusedSimpArgs false
set_option linter.unusedVariables false
set_option linter.unusedSectionVars false
noncomputable section
namespace Go.Ab
open Go.RowKit
variable[Dr]
section
variable{P:Program}{S:Nat->Prop}{κ:Kap}{D:Nat->Prop}{w:World}
theorem EffAt.update{b g c:Nat}{ent:Ent}{cur cells:Array Value}{r:Res}{y:Value}(hS:∀g,S g->g<w.heap.size)(hd:D b)(hκ:κ b=some (g,c))(hset:r.set=[(b,ent)])(hk:r.kill=none)(hf:r.frz=[])(hcl:ent.cell)
  (hg:w.heap[g]?=some (.cells cur ent.e (0,0))) (hnS:¬S g)
  (hz:∀cs∈ent.es,cs.length=ent.z) (hsz:cells.size=c*ent.z) (hc:ent.es.length<=c) (hm:c<=ent.cap)
  (hcell:∀(i j:Nat) (cs:List AV) (a:AV),ent.es[i]?=some cs->cs[j]?=some a->∃u,cells[i*ent.z+j]?=some u/\u.oneCell'=true/\(ent.box=true->VRel S κ D w a u)/\(ent.box=false->CRel S w a u))
  (hv:VRel S κ D w r.val y) (hre:r.re=[]:=by rfl):EffAt S κ D w S κ r y (w.setRow g cells):=by
 have hSw:∀g',S g'->(w.setRow g cells).heap[g']?=w.heap[g']?:=λg' h=>setRow_other w g g' cells (λe=>hnS (by rw[<-e];exact h))
 have hDD:∀b,D b->D1 D r b:=λb hb=>.inl ⟨hb,by simp[hk],by simp[hf]⟩
 exact{
  os:=rfl
  tape:=rfl
  output:=.of
  size:=by simp
  blk:=λg' hg' hb=>setRow_other w g g' cells (λe=>hb b c (.inl (by simp[ids,hset])) hd (by rw[e];exact hκ))
  sup:=λ_ h=>h
  snew:=λ_ h=>.inl h
  slt:=λg' h=>by simpa using hS g' h
  sfrz:=λb' hb=>by grind
  kold:=λ_ _ _=>rfl
  kout:=λ_ _=>rfl
  knew:=λb' h hb=>by
   simp[ids,hset]at hb
   simp_all
  one:=λb' b'' h _ hb=>by
   simp[ids,hset]at hb
   simp_all
  res:=λb hb=>by grind
  ents:=λb' e hb=>by simp[hset]at hb;obtain⟨rfl,rfl⟩:=hb;refine EntAt.of hcl ⟨hz,?_⟩;rw[hκ];refine⟨cells,setRow_heap w g cur cells _ (0,0) hg,hsz,hc,hm,hnS,λi j cs a hi hj=>?_⟩;obtain⟨u,h1,h2,h3,h4⟩:=hcell i j cs a hi hj;exact⟨u,h1,h2,λhb=>(h3 hb).mono (λ_ h=>h) hSw hDD (λ_ _=>rfl),λhb=>(h4 hb).mono (λ_ h=>h) hSw⟩
  val:=hv.mono (λ_ h=>h) hSw hDD (λ_ _=>rfl) }
theorem zBt{A:Array Value}{o k:Nat}{vs:List Value}(h:o+vs.length<=A.size):(A.toList.take o++vs++A.toList.drop (o+vs.length)).toArray[k]?=if k<o then A[k]? else if k<o+vs.length then vs[k-o]? else A[k]?:=by grind
theorem idx_lt{i j n z:Nat}(hi:i<n)(hj:j<z):i*z+j<n*z:=by
 have:(i+1)*z<=n*z:=zbw _ hi
 grind
theorem idx_inj{i i' j j' z:Nat}(hj:j<z)(hj':j'<z)(h:i*z+j=i'*z+j'):i=i'/\j=j':=by
 have hz:0<z:=by omega
 have h1:(i*z+j) / z=i:=by rw[zd4,Nat.mul_add_div hz,zgw hj,zer]
 have h2:(i'*z+j') / z=i':=by rw[zd4,Nat.mul_add_div hz,zgw hj',zer]
 simp_all
theorem zIq{L:Nat->Option Ent}{t:TypeId}{x a:AV}{r:Res}{vx va:Value}(hS:∀g,S g->g<w.heap.size)(h:aStore P L t x a=some r)
  (hx:VRel S κ D w x vx) (ha:VRel S κ D w a va) (hL:∀b ent,L b=some ent->EntAt S κ D w (κ b) ent):∃w',(Instr.storeAt t va vx).run P w=.ok () w'/\∀y,EffAt S κ D w S κ r y w':=by
 unfold aStore at h;split at h
 case h_2=>cases h
 rename_i b z i o;obtain⟨g,c,hd,hk,rfl⟩:=ha.loc_inv;split at h
 case h_2=>cases h
 rename_i ent n hl hs;split at h
 case isFalse=>cases h
 rename_i hc;obtain⟨⟨rfl,hce⟩,hlen,h1,hcl⟩:=hc;split at h
 case h_2=>cases h
 rename_i cs hi;split at h
 case isFalse=>cases h
 rename_i hon;injection h with h;subst h;obtain⟨hz,hent⟩:=(hL b ent hl).1 hce;rw[hk]at hent;obtain⟨cells,hcells,hsz,hle,hm,hnS,hcell⟩:=hent;obtain⟨c1,c2,c3⟩:=zwl h1 hx;have hcsl:cs.length=ent.z:=hz cs (zaq hi);have hilt:i<ent.es.length:=(zam.1 hi).1
 have hb:i*ent.z+o+vx.cells.toList.length<=cells.size:=by rw[hsz];have:(i+1)*ent.z<=c*ent.z:=zbw _ (by omega);rw[zgv]at this;simp[c1];omega
 have hrun:=run_storeCells_at P g (i*ent.z+o) ent.e vx.cells.toList 0 cells w hcells (by simpa using hb) (by simpa using c2);simp only[zer]at hrun;refine⟨_,?_,λy=>EffAt.update (b:=b) (g:=g) (c:=c) (ent:={ ent with es:=ent.es.set i (splice cs o x.cells) }) (cells:=(cells.toList.take (i*ent.z+o)++vx.cells.toList++cells.toList.drop (i*ent.z+o+vx.cells.toList.length)).toArray) hS hd hk rfl rfl rfl hce hcells hnS ?_ ?_ ?_ hm ?_ (.bot y)⟩
 · have hne:¬(vx.cells.size≠n):=by simp;omega
   simp only[Instr.storeAt,Instr.sureAddr,storeVar,Sem.run_bind,Sem.run_pure,Result.andThen_ok,zd7 hs,hne,if_false];exact hrun
 · intro cs' hcs';rcases List.mem_or_eq_of_mem_set hcs' with h'|h'
   ·exact hz cs' h'
   ·rw[h',zp3 (by omega)];exact hcsl
 ·grind
 ·simpa using hle
 · intro i' j cs' av hi' hj;simp only at hi' ⊢;rw[zfD]at hi';have hxl:vx.cells.toList.length=x.cells.length:=by simpa using c1
   by_cases hii:i=i'
   · subst hii;simp[hilt]at hi';subst hi';have hjl:j<cs.length:=by have:=(zam.1 hj).1;rwa[zp3 (by omega)]at this
     rw[zFA (by omega)]at hj;rw[zBt (by omega)];by_cases h4:j<o
     ·simp_all
     · rw[if_neg h4]at hj;by_cases h5:j<o+x.cells.length
       · rw[if_pos h5]at hj;rw[if_neg (by omega),if_pos (by omega)];have hlt:j-o<vx.cells.size:=by omega
         have he:i*ent.z+j-(i*ent.z+o)=j-o:=by omega
         rw[he];refine⟨vx.cells[j-o],by simp[hlt],c2 _ (zfc hlt),λ_=>c3 _ av _ hj (zaU hlt),λhb=>?_⟩;rcases hcl with h|h
         ·rw[h]at hb;cases hb
         ·exact zkY 4 (zgZ h av (zaq hj)) (c3 _ av _ hj (zaU hlt))
       grind
   · rw[if_neg hii]at hi';have hjl:j<ent.z:=by rw[<-hz cs' (zaq hi')];exact(zam.1 hj).1
     rw[zBt (by omega)];have hout:∀q,o<=q->q<o+x.cells.length->i'*ent.z+j≠i*ent.z+q:=λq h6 h7 e=>hii ((idx_inj hjl (show q<ent.z by omega) e).1.symm)
     by_cases h4:i'*ent.z+j<i*ent.z+o
     ·simp_all
     · rw[if_neg h4];rw[if_neg]
       ·simp_all
       ·intro h5;exact hout (i'*ent.z+j-i*ent.z) (by omega) (by omega) (by omega)
theorem zG8{L:Nat->Option Ent}{z:Nat}{x:AV}{new:List (List AV)}{vx:Value}(hz:0<z)(h:srcOf L z x=some new)(hx:VRel S κ D w x vx)(hL:∀b ent,L b=some ent->EntAt S κ D w (κ b) ent):∃(A:Option Addr) (c:Nat) (news:List Value),vx=.slice A new.length c/\news.length=new.length*z/\(∀u∈news,u.oneCell'=true)/\(A=none->new=[])/\(∀a,A=some a->∀j u,news[j]?=some u->w.cell? (a.add j)=some u)/\(∀cs∈new,cs.length=z)/\∀(i j:Nat) (cs:List AV) (c:AV),new[i]?=some cs->cs[j]?=some c->∃u,news[i*z+j]?=some u/\CRel S w c u:=by
 unfold srcOf at h;split at h
 · injection h with h;subst h;rw[hx.v_inv]
   simp_all
 · rename_i z' es;split at h
   case isFalse=>cases h
   rename_i hzz;subst hzz;injection h with h;subst h;have hf:=hx.sl_inv
   cases hf with
   |sl _ _ A len cap u hlen hcap hzz ha hr =>
     have hget:∀k,k<es.length*z'->∃cs c,es[k / z']?=some cs/\cs[k % z']?=some c:=by
      intro k hk;have h1:k / z'<es.length:=by rw[zgy hz];exact hk
      have h2:k % z'<es[k / z'].length:=by rw[hzz _ (zar h1)];exact zix _ hz
      exact⟨_,_,zaa h1,zaa h2⟩
     have hdm:∀k,k / z'*z'+k % z'=k:=λk=>by rw[zd4];exact Nat.div_add_mod k z'
     refine⟨A,cap,(List.range (es.length*z')).map λk=>u (k / z') (k % z'),by rw[hlen],by simp,?_,?_,?_,hzz,?_⟩
     ·grind
     ·grind
     ·grind
     · intro i j cs c hi hj;have h1:i<es.length:=(zam.1 hi).1;have h2:j<z':=by rw[<-hzz cs (zaq hi)];exact(zam.1 hj).1
       have hlt:=idx_lt h1 h2
       grind
 · rename_i b z' off n;split at h
   case h_2=>cases h
   rename_i ent hl;split at h
   case isFalse=>cases h
   rename_i hc;obtain⟨rfl,rfl,hbx,hzp,hle⟩:=hc;injection h with h;subst h;obtain⟨hzz,hent⟩:=(hL b ent hl).1 (.inr hzp);have hlen:((ent.es.drop off).take n).length=n:=by simp;omega
   cases hx with
   |c h=>cases h
   |row0 _ _ hd hk=>simp_all
   |row _ _ _ _ g c off' cap hd hk hnc ho hc =>
     rw[hk]at hent;obtain⟨cells,hcells,hsz,hle2,hm,hnS,hcell⟩:=hent
     have hall:off*ent.z+n*ent.z<=cells.size:=by rw[hsz,<-zdD];exact zbw _ (by omega)
     have hget:∀k u,((cells.toList.drop (off*ent.z)).take (n*ent.z))[k]?=some u->k<n*ent.z/\cells[off*ent.z+k]?=some u:=by
      intro k u hk;rw[zch]at hk;split at hk
      ·simp_all
      ·cases hk
     refine⟨some ⟨g,off',none⟩,cap,(cells.toList.drop (off*ent.z)).take (n*ent.z),by rw[hlen],by rw[hlen];simp;omega,?_,by simp,?_,?_,?_⟩
     · intro q hq;obtain⟨k,hk'⟩:=zcG.1 hq;obtain⟨hlt,hq'⟩:=hget k q hk';have h1:k / ent.z<n:=by rw[zgy hz];exact hlt
       have h1':off+k / ent.z<ent.es.length:=by omega
       have h2:k % ent.z<ent.es[off+k / ent.z].length:=by rw[hzz _ (zar h1')];exact zix _ hz
       obtain⟨u,e1,e2,_⟩:=hcell _ _ _ _ (zaa h1') (zaa h2)
       have:(off+k / ent.z)*ent.z+k % ent.z=off*ent.z+k:=by rw[zdD,zhc,zd4 (k / ent.z),Nat.div_add_mod]
       simp_all
     · intro a hA j u hu;injection hA with hA;subst hA;obtain⟨hlt,hq⟩:=hget j u hu
       have hoff:off'=off*ent.z:=by
        rcases ho with h|⟨h,_⟩
        ·exact h
        ·subst h;simp at hlt
       rw[add_at,cell_of_row w g _ cells ent.e (0,0) hcells,hoff];exact hq
     ·grind
     · intro i j cs c hi hj;rw[zch]at hi;split at hi
       case isFalse=>cases hi
       rename_i hin;rw[zb4]at hi;have h2:j<ent.z:=by rw[<-hzz cs (zaq hi)];exact(zam.1 hj).1
       obtain⟨u,e1,e2,_,e4⟩:=hcell _ _ cs c hi hj;refine⟨u,?_,e4 hbx⟩;rw[zch,if_pos (idx_lt hin h2),zb4]
       grind
 ·cases h
theorem zGr{t ty e:TypeId}{i:TypeInfo}{size n c base:Nat}{v:Value}{xs:List Value}(ht:P.underlying t=some (.slice e))(hi:P.info? e=some i)
  (hown:w.ownsRow base e size v n xs):(Builtin.append_ #[t,t] ty #[v,.slice none 0 c]).run P w=.ok v w:=by
 rcases hown.2 with⟨rfl,rfl⟩|⟨g,cap,cur,rfl,_,_,hnc,_⟩
 ·simp[Builtin.append_,run_underlying ht,sizeOf,typeInfo,hi,Builtin.lenOf,Builtin.firstCells]
 ·simp[Builtin.append_,run_underlying ht,sizeOf,typeInfo,hi,Builtin.lenOf,Builtin.firstCells,hnc,storeCells]
theorem zHg{L:Nat->Option Ent}{t ty:TypeId}{d:Nat}{s x:AV}{r:Res}{vs vx:Value}(hS:∀g,S g->g<w.heap.size)(hd:¬D d)
  (h:znp P L d t s x=some r) (hs:VRel S κ D w s vs) (hx:VRel S κ D w x vx) (hL:∀b ent,L b=some ent->EntAt S κ D w (κ b) ent):∃y w' κ',(Builtin.append_ #[t,t] ty #[vs,vx]).run P w=.ok y w'/\EffAt S κ D w S κ' r y w':=by
 unfold znp at h;split at h
 case h_2=>cases h
 rename_i e hu;split at h
 case h_2=>cases h
 rename_i i zero hi hz;split at h
 case isFalse=>cases h
 rename_i hpos;obtain⟨hpos,hzl⟩:=hpos;obtain⟨i',zv,hi',hzz,rfl⟩:=zja hz;rw[hi]at hi';injection hi' with hi';subst hi';have hzs:zv.cells.size=i.size:=by simpa using hzl
 split at h
 case h_2=>cases h
 rename_i new hsrc;obtain⟨A,c,news,rfl,hnl,hn1,hA0,hAc,hnz,hncell⟩:=zG8 hpos hsrc hx hL
 have main:∀(old:List (List AV)) (xs:List Value) (kill:Option Nat) (kb:Option (Nat×Nat)),w.ownsRow 0 e i.size vs old.length xs->(∀cs∈old,cs.length=i.size)->(∀(i' j:Nat) (cs:List AV) (c:AV),old[i']?=some cs->cs[j]?=some c->∃u,xs[i'*i.size+j]?=some u/\u.oneCell'=true/\CRel S w c u)->(old.length+new.length)*(i.bytes+1)<=1099511627776->(∀g,vs.ownBlock=some g->¬S g/\∃b c,kill=some b/\D b/\κ b=some (g,c))->kill≠some d->r={ val:=.row d i.size 0 (old++new).length,set:=[(d,{ z:=i.size,e:=e,es:=old++new,box:=false })],kill:=kill }->∃y w' κ',(Builtin.append_ #[t,t] ty #[vs,.slice A new.length c]).run P w=.ok y w'/\EffAt S κ D w S κ' r y w':=by
  intro old xs kill kb hown hoz hocell hby hob hkd hr;rw[zcb]at hr;have hnb:old.length+new.length<=1099511627776:=zbP (zeY _ (by omega)) hby;have hby':(old.length+new.length)*i.bytes<=140737488355328:=zbP (zbP (zhy _ (by omega)) hby) (by omega)
  obtain⟨y,w',hrun,hown',hgrow,hyb⟩:∃y w',(Builtin.append_ #[t,t] ty #[vs,.slice A new.length c]).run P w=.ok y w'/\w'.ownsRow 0 e i.size y (old.length+new.length) (xs++news)/\w.grownBy w' vs.ownBlock/\(y.ownBlock=vs.ownBlock\/y.ownBlock=some w.heap.size):=by
   cases A with
   |none=>have hn0:=hA0 rfl;subst hn0;have:news=[]:=zcU (by simpa using hnl);subst this;exact⟨vs,w,zGr hu hi hown,by simpa using hown,⟨rfl,rfl,rfl,zaX _,λ_ _ _=>rfl⟩,.inl rfl⟩
   |some ad =>
     obtain⟨y,w',h1,h2,h3,_,h5⟩:=run_append_own_at (P:=P) w 0 t ty e i zv i.size i.bytes hu hi hzz rfl rfl hzs hpos vs old.length xs hown ad new.length c news hnl (hAc ad rfl) hn1 (by unfold maxLen;omega) hby' (zdh _)
     grind
  have hSne:∀g,S g->some g≠vs.ownBlock:=λg hg e=>(hob g e.symm).1 hg
  have hSw:∀g,S g->w'.heap[g]?=w.heap[g]?:=λg hg=>hgrow.block g (hS g hg) (hSne g hg)
  have hyS:∀g,y.ownBlock=some g->¬S g:=by
   intro g hg hs';rcases hyb with h|h
   ·simp_all
   ·grind
  have hxsl:xs.length=old.length*i.size:=hown.1
  obtain⟨kd,hkd1,hkd2,hkd3⟩:∃kd:Option (Nat×Nat),(∀(S':Nat->Prop) (κ':Kap) (D':Nat->Prop) (w'':World),D' d->κ' d=kd->VRel S' κ' D' w'' (.row d i.size 0 (old.length+new.length)) y)/\(∀g c,kd=some (g,c)->y.ownBlock=some g)/\(match kd with
    |none=>old++new=[]
    |some (g,c)=>∃cells:Array Value,w'.heap[g]?=some (.cells cells e (0,0))/\cells.size=c*i.size/\(old++new).length<=c/\c<=maxLen/\cells.toList.take ((old.length+new.length)*i.size)=xs++news):=by
   rcases hown'.2 with⟨rfl,h0⟩|⟨g,cap,cur,rfl,_,hh,hn,hcm,hcs,htake⟩
   · refine⟨none,λS' κ' D' w'' hD hk=>?_,by simp,?_⟩
     ·rw[h0];exact .row0 d i.size hD hk
     simp_all
   ·refine⟨some (g,cap),λS' κ' D' w'' hD hk=>.row d i.size 0 _ g cap 0 cap hD hk hn (.inl (by simp)) (λ_=>rfl),?_,cur,hh,hcs,by simpa using hn,hcm,htake⟩;intro g' c' he;injection he with he;injection he with e1 e2;simp[Value.ownBlock,e1]
  refine⟨y,w',λb=>if b=d then kd else κ b,hrun,?_⟩;subst hr
  exact{
   os:=hgrow.os
   tape:=hgrow.tape
   output:=.of hgrow.output (run_drawn _ hrun)
   size:=hgrow.size
   blk:=λg hg hb=>hgrow.block g hg (λe=>by grind)
   sup:=λ_ h=>h
   snew:=λ_ h=>.inl h
   slt:=λg hg=>zca (hS g hg) hgrow.size
   sfrz:=λb hb=>by cases hb
   kold:=λb hb _=>if_neg (λe=>hd (by subst e;exact hb))
   kout:=λb hb=>if_neg (λe=>hb (by simp[ids,e]))
   knew:=λb _ hb g c' hk=>by
    simp[ids]at hb
    grind
   one:=λb b' _ _ h1 h2 _ _ _ _ _=>by simp[ids]at h1 h2;rw[h1,h2]
   res:=λb hb=>by cases hb
   ents:=λb ent hb=>by
    simp at hb;obtain⟨rfl,rfl⟩:=hb;refine EntAt.of (.inr (by show 0<i.size;omega)) ⟨λcs hcs=>?_,?_⟩
    ·grind
    · simp only[if_true]
      cases kd with
      |none=>grind
      |some gc =>
        obtain⟨g,cap⟩:=gc;obtain⟨cells,q1,q2,q3,q4,q5⟩:=hkd3;refine⟨cells,q1,q2,q3,q4,hyS g (hkd2 g cap rfl),λi' j cs a hi' hj=>?_⟩;have hil:i'<old.length+new.length:=by have:=(zam.1 hi').1;simpa using this
        have hcz:cs.length=i.size:=by
         rcases zbh.1 (zaq hi')with h'|h'
         ·exact hoz cs h'
         ·exact hnz cs h'
        have hjl:j<i.size:=by rw[<-hcz];exact(zam.1 hj).1
        have hq:cells[i'*i.size+j]?=(xs++news)[i'*i.size+j]?:=by rw[<-q5,zch,if_pos (idx_lt hil hjl)];simp
        rw[hq,zci];rw[zci]at hi';by_cases hlt:i'<old.length
        ·rw[if_pos hlt]at hi';rw[if_pos (by grind)];obtain⟨u,u1,u2,u3⟩:=hocell i' j cs a hi' hj;exact⟨u,u1,u2,(λhb=>by cases hb),λ_=>u3.mono (λ_ h=>h) hSw⟩
        · rw[if_neg hlt]at hi';have hge:old.length*i.size<=i'*i.size:=zbw _ (by omega);rw[if_neg (by rw[hxsl];omega)];obtain⟨u,u1,u2⟩:=hncell (i'-old.length) j cs a hi' hj;have he:i'*i.size+j-xs.length=(i'-old.length)*i.size+j:=by rw[hxsl,Nat.sub_mul];omega
          rw[he];exact⟨u,u1,hn1 u (zaq u1),(λhb=>by cases hb),λ_=>u2.mono (λ_ h=>h) hSw⟩
   val:=hkd1 _ _ _ _ (.inr (by simp[ids])) (by simp) }
 split at h
 · rename_i hsv;split at h
   case isFalse=>cases h
   rename_i hby;injection h with h;have hv:=hs.v_inv;subst hv;exact main [] [] none none ⟨by simp,.inl ⟨rfl,rfl⟩⟩ (by simp) (by simp) (by simpa using hby) (λg hg=>by simp[Value.ownBlock]at hg) (by simp) (by rw[<-h];simp)
 · rename_i b z off n;split at h
   case h_2=>cases h
   rename_i ent hl;split at h
   case isFalse=>cases h
   rename_i hc;obtain⟨hb1,hbd,hz1,hz2,he,hbx,ho0,hnl',hby⟩:=hc;injection h with h;subst hz2;subst he;obtain⟨hzz',hent⟩:=(hL b ent hl).1 (.inr (by omega));rw[hz1]at hzz'
   cases hs with
   |c h=>cases h
   |row0 _ _ hdb hk=>rw[hk]at hent;have h0:=hent.1;clear hnl';exact main ent.es [] (some b) none ⟨by rw[h0];simp,.inl ⟨rfl,by rw[h0];rfl⟩⟩ hzz' (by rw[h0];simp) hby (λg hg=>by simp[Value.ownBlock]at hg) (by simpa using hbd) h.symm
   |row _ _ _ _ g cp off' cap hdb hk hnc ho hcc =>
     subst ho0;subst hnl';rw[hk]at hent;obtain⟨cells,hcells,hsz,hle2,hm,hnS,hcell⟩:=hent;have hcap:cap=cp:=hcc rfl;subst hcap
     have hoff:off'=0:=by
      rcases ho with h|⟨_,h⟩
      ·simpa using h
      ·exact absurd rfl h
     subst hoff;rw[hz1]at hsz;have hbig:ent.es.length*i.size<=cells.size:=by rw[hsz];exact zbw _ hle2
     refine main ent.es (cells.toList.take (ent.es.length*i.size)) (some b) (some (g,cap)) ⟨by simp;omega,.inr ⟨g,cap,cells,rfl,zdh _,hcells,hle2,zbP hm ent.cap_le,hsz,rfl⟩⟩ hzz' ?_ hby ?_ (by simpa using hbd) h.symm
     · intro i' j cs a hi' hj;obtain⟨u,u1,u2,_,u4⟩:=hcell i' j cs a hi' hj;rw[hz1]at u1;have hjl:j<i.size:=by rw[<-hzz' cs (zaq hi')];exact(zam.1 hj).1
       refine⟨u,?_,u2,u4 hbx⟩;rw[zch,if_pos (idx_lt (zam.1 hi').1 hjl)];simpa using u1
     · intro g' hg';simp[Value.ownBlock]at hg'
       simp_all
 ·cases h
theorem zJx{L:Nat->Option Ent}{t ty:TypeId}{ts:Array TypeId}{s x:AV}{r:Res}{vs vx:Value}(hS:∀g,S g->g<w.heap.size)(hts:ts[0]?=some t)
  (h:aCopy P L t s x=some r) (hs:VRel S κ D w s vs) (hx:VRel S κ D w x vx) (hL:∀b ent,L b=some ent->EntAt S κ D w (κ b) ent):∃y w',(Builtin.copy_ ts ty #[vs,vx]).run P w=.ok y w'/\EffAt S κ D w S κ r y w':=by
 unfold aCopy at h;split at h
 case h_2=>cases h
 rename_i e hu;split at h
 case h_2=>cases h
 rename_i sz b z off n hsz;split at h
 case h_2=>cases h
 rename_i ent new hl hsrc;split at h
 case isFalse=>cases h
 rename_i hc;obtain⟨hpos,rfl,hez,hbx,hle⟩:=hc;injection h with h;subst h;obtain⟨A,c,news,rfl,hnl,hn1,hA0,hAc,hnz,hncell⟩:=zG8 hpos hsrc hx hL;have hce:ent.cell:=.inr (by omega);obtain⟨hzz,hent⟩:=(hL b ent hl).1 hce;have hk:(min new.length n)*z<=news.length:=by rw[hnl];exact zbw _ (Nat.min_le_left _ _)
 have hfirst:(Builtin.firstCells z (min new.length n) (.slice A new.length c)).run P w=.ok (news.take (min new.length n*z)).toArray w:=by
  cases A with
  |none=>have:=hA0 rfl;subst this;have:news=[]:=zcU (by simpa using hnl);subst this;simp[Builtin.firstCells]
  |some ad =>
    have:=run_loadCells_list (P:=P) w ad (news.take (min new.length n*z)) (λj u hu=>by grind)
    rw[zeC,zhp hk]at this;simpa[Builtin.firstCells]using this
 have hpre:∀base:Option Addr,∀cap:Nat,(Builtin.copy_ ts ty #[.slice base n cap,.slice A new.length c]).run P w =
   ((match base with|some a=>storeCells a (news.take (min new.length n*z))|none=>pure ():Sem Unit).run P w).andThen λ_ w'=>.ok (goInt (min new.length n:Nat)) w':=by
  intro base cap;have hm:Nat.min new.length n=min new.length n:=rfl;cases base<;>simp[Builtin.copy_,hts,run_underlying hu,Builtin.lenOf,zd7 hsz,hm,hfirst]
 cases hs with
 |c h=>cases h
 |row0 _ _ hd hkk =>
   rw[hkk]at hent;refine⟨goInt (min new.length 0:Nat),w,by rw[hpre];simp,?_⟩;have h0:=hent.1
   exact{
    os:=rfl
    tape:=rfl
    output:=.of
    size:=zaX _
    blk:=λ_ _ _=>rfl
    sup:=λ_ h=>h
    snew:=λ_ h=>.inl h
    slt:=hS
    sfrz:=λb' hb=>by cases hb
    kold:=λ_ _ _=>rfl
    kout:=λ_ _=>rfl
    knew:=λb' h hb=>by
     simp[ids]at hb
     simp_all
    one:=λb' b'' h _ hb=>by
     simp[ids]at hb
     simp_all
    res:=λb hb=>by cases hb
    ents:=λb' en hb=>by
     simp at hb;obtain⟨rfl,rfl⟩:=hb;refine EntAt.of hce ⟨by simp[h0],?_⟩
     simp_all
    val:=.c (.v _) }
 |row _ _ _ _ g cp off' cap hd hkk hnc ho hcc =>
   rw[hkk]at hent;obtain⟨cells,hcells,hcsz,hle2,hm,hnS,hcell⟩:=hent;rw[hez]at hcsz;have hl1:(news.take (min new.length n*z)).length=min new.length n*z:=by simp_all
   have hin:off*z+min new.length n*z<=cells.size:=by rw[hcsz,<-zdD];exact zbw _ (by omega)
   have hrun:(storeCells ⟨g,off',none⟩ (news.take (min new.length n*z))).run P w=.ok () (w.setRow g (cells.toList.take (off*z)++news.take (min new.length n*z)++cells.toList.drop (off*z+min new.length n*z)).toArray):=by
    rcases ho with h|⟨h,_⟩
    · have:=run_storeCells_at P g (off*z) ent.e (news.take (min new.length n*z)) 0 cells w hcells (by omega) (λu hu=>hn1 u (zeE hu))
      simp_all
    ·subst h;simp[storeCells,setRow_self w g cells ent.e (0,0) hcells]
   refine⟨goInt (min new.length n:Nat),_,by rw[hpre];simp only[hrun,Result.andThen_ok];rfl,EffAt.update (b:=b) (g:=g) (c:=cp)
    (ent:={ ent with es:=ent.es.take off++(new.take n)++ent.es.drop (off+min new.length n) }) hS hd hkk rfl rfl rfl hce hcells hnS ?_ ?_ ?_ hm ?_ (.c (.v _))⟩
   ·grind
   ·grind
   ·simp;omega
   · intro i j cs a hi hj;simp only at hi ⊢;rw[hez]
     have hcz:cs.length=z:=by
      rcases zbh.1 (zaq hi)with h|h
      ·grind
      ·grind
     have hjl:j<z:=by rw[<-hcz];exact(zam.1 hj).1
     have hsg:=zBt (A:=cells) (o:=off*z) (k:=i*z+j) (vs:=news.take (min new.length n*z)) (by rw[hl1];exact hin);rw[hl1]at hsg;rw[hsg];have ha1:(ent.es.take off).length=off:=by simp;omega
     have ha2:(new.take n).length=min new.length n:=by simp[Nat.min_comm]
     rw[zdC,zci,ha1]at hi;by_cases h1:i<off
     · rw[if_pos h1,zch,if_pos h1]at hi;have:i*z+j<off*z:=idx_lt h1 hjl
       simp_all
     · have hge:off*z<=i*z:=zbw _ (by omega);rw[if_neg h1,zci,ha2]at hi;rw[if_neg (by omega)];by_cases h2:i-off<min new.length n
       · rw[if_pos h2,zch,if_pos (by omega)]at hi;have hlt:(i-off)*z+j<min new.length n*z:=idx_lt h2 hjl;have he:i*z+j-off*z=(i-off)*z+j:=by rw[Nat.sub_mul];omega
         grind
       · rw[if_neg h2,zb4]at hi;have hge2:(off+min new.length n)*z<=i*z:=zbw _ (by omega);rw[zdD]at hge2;rw[if_neg (by omega)];have hii:off+min new.length n+(i-off-min new.length n)=i:=by omega
         simp_all
theorem zIh{L:Nat->Option Ent}{t ty:TypeId}{ts:Array TypeId}{s:AV}{r:Res}{vs:Value}(hS:∀g,S g->g<w.heap.size)(hts:ts[0]?=some t)
  (h:aClear P L t s=some r) (hs:VRel S κ D w s vs) (hL:∀b ent,L b=some ent->EntAt S κ D w (κ b) ent):∃y w',(Builtin.clear_ ts ty #[vs]).run P w=.ok y w'/\EffAt S κ D w S κ r y w':=by
 unfold aClear at h;split at h
 case h_2=>cases h
 rename_i e hu;split at h
 case h_2=>cases h
 rename_i sz zero b z off n hsz hzero;split at h
 case h_2=>cases h
 rename_i ent hl;split at h
 case isFalse=>cases h
 rename_i hc;obtain⟨hpos,rfl,hez,hbx,hzl,hz1,hle⟩:=hc;injection h with h;subst h;obtain⟨i,zv,hi,hzz0,rfl⟩:=zja hzero;have hzs:zv.cells.size=z:=by simpa using hzl
 have hzr:=znb (S:=S) (w:=w) hz1;have hce:ent.cell:=.inr (by omega);obtain⟨hzz,hent⟩:=(hL b ent hl).1 hce;have hnl:(Builtin.zeroCells zv.cells n).toList.length=n*z:=by simp[Builtin.zeroCells,hzs]
 have hnget:∀k,k<n*z->∃(u:Value),(Builtin.zeroCells zv.cells n).toList[k]?=some u/\zv.cells[k % z]?=some u:=by
  intro k hk;have hm:k % z<zv.cells.size:=by rw[hzs];exact zix _ hpos
  refine⟨zv.cells[k % z],?_,zaU hm⟩;simp[Builtin.zeroCells,hzs,hk]
  grind
 have hn1:∀u∈(Builtin.zeroCells zv.cells n).toList,u.oneCell'=true:=by
  intro u hu';obtain⟨k,hk⟩:=zcm hu';have hlt:k<n*z:=by rw[<-hnl];exact(zam.1 hk).1
  obtain⟨u',h1,h2⟩:=hnget k hlt;rw[hk]at h1;injection h1 with h1;subst h1;exact hzr.2.1 _ (zgW h2)
 have hv:VRel S κ D w (.tup []) (.tuple #[]):=.c (.tup [] #[] rfl (λj c x hj=>by simp at hj))
 cases hs with
 |c h=>cases h
 |row0 _ _ hd hkk =>
   rw[hkk]at hent;refine⟨.tuple #[],w,by simp[Builtin.clear_,hts,run_underlying hu],?_⟩;have h0:=hent.1
   exact{
    os:=rfl
    tape:=rfl
    output:=.of
    size:=zaX _
    blk:=λ_ _ _=>rfl
    sup:=λ_ h=>h
    snew:=λ_ h=>.inl h
    slt:=hS
    sfrz:=λb' hb=>by cases hb
    kold:=λ_ _ _=>rfl
    kout:=λ_ _=>rfl
    knew:=λb' h hb=>by
     simp[ids]at hb
     simp_all
    one:=λb' b'' h _ hb=>by
     simp[ids]at hb
     simp_all
    res:=λb hb=>by cases hb
    ents:=λb' en hb=>by
     simp at hb;obtain⟨rfl,rfl⟩:=hb;refine EntAt.of hce ⟨by simp[h0],?_⟩
     simp_all
    val:=.c (.tup [] #[] rfl (λj c x hj=>by simp at hj)) }
 |row _ _ _ _ g cp off' cap hd hkk hnc ho hcc =>
   rw[hkk]at hent;obtain⟨cells,hcells,hcsz,hle2,hm,hnS,hcell⟩:=hent;rw[hez]at hcsz
   have hin:off*z+n*z<=cells.size:=by rw[hcsz,<-zdD];exact zbw _ (by omega)
   have hrun:(Builtin.clear_ ts ty #[.slice (some ⟨g,off',none⟩) n cap]).run P w=.ok (.tuple #[]) (w.setRow g (cells.toList.take (off*z)++(Builtin.zeroCells zv.cells n).toList++cells.toList.drop (off*z+n*z)).toArray):=by
    cases n with
    |zero =>
      have e:(Builtin.zeroCells zv.cells 0).toList=[]:=by simp[Builtin.zeroCells]
      rw[e];simp[Builtin.clear_,hts,run_underlying hu,setRow_self w g cells ent.e (0,0) hcells]
    |succ n =>
      rcases ho with h|⟨h,_⟩
      · have:=run_storeCells_at P g (off*z) ent.e (Builtin.zeroCells zv.cells (n+1)).toList 0 cells w hcells (by omega) hn1;simp only[zer,hnl]at this;rw[h];simp[Builtin.clear_,hts,run_underlying hu,zjI hi hzz0]
        simp_all
      ·cases h
   refine⟨.tuple #[],_,hrun,EffAt.update (b:=b) (g:=g) (c:=cp)
    (ent:={ ent with es:=ent.es.take off++List.replicate n (nrmL P (zj5 P 8 e) (zv.cells.toList.map .v))++ent.es.drop (off+n) }) hS hd hkk rfl rfl rfl hce hcells hnS ?_ ?_ ?_ hm ?_ hv⟩
   · intro cs hcs;simp only[hez];rcases zbh.1 hcs with h|h
     · rcases zbh.1 h with h|h
       ·grind
       ·rw[ze5 h];simpa[zlD]using hzs
     grind
   ·grind
   ·simp;omega
   · intro i' j cs a hi' hj;simp only at hi' ⊢;rw[hez]
     have hcz:cs.length=z:=by
      rcases zbh.1 (zaq hi')with h|h
      · rcases zbh.1 h with h|h
        ·grind
        ·rw[ze5 h];simpa[zlD]using hzs
      ·grind
     have hjl:j<z:=by rw[<-hcz];exact(zam.1 hj).1
     have hsg:=zBt (A:=cells) (o:=off*z) (k:=i'*z+j) (vs:=(Builtin.zeroCells zv.cells n).toList) (by rw[hnl];exact hin);rw[hnl]at hsg;rw[hsg];have ha1:(ent.es.take off).length=off:=by simp;omega
     rw[zdC,zci,ha1]at hi';by_cases h1:i'<off
     · rw[if_pos h1,zch,if_pos h1]at hi';have:i'*z+j<off*z:=idx_lt h1 hjl
       simp_all
     · have hge:off*z<=i'*z:=zbw _ (by omega);rw[if_neg h1,zci,zcf]at hi';rw[if_neg (by omega)];by_cases h2:i'-off<n
       · rw[if_pos h2,zgY,if_pos h2]at hi';injection hi' with hi';subst hi';have hlt:(i'-off)*z+j<n*z:=idx_lt h2 hjl;have he:i'*z+j-off*z=(i'-off)*z+j:=by rw[Nat.sub_mul];omega
         obtain⟨u,u1,u2⟩:=hnget _ hlt;have hmod:((i'-off)*z+j) % z=j:=by rw[zd4,zhq,zeA hjl]
         rw[hmod]at u2;rw[if_pos (by omega),he];obtain⟨a0,hj0,hac⟩:=zst P _ _ j a hj;have hcr:=hzr.2.2 j a0 u hj0 u2
         have hcr':CRel S w a u:=by
          rcases hac with rfl|⟨t',rfl⟩
          ·exact hcr
          ·exact zs3 hcr
         grind
       · rw[if_neg h2,zb4]at hi';have hge2:(off+n)*z<=i'*z:=zbw _ (by omega);rw[zdD]at hge2;rw[if_neg (by omega)];have hii:off+n+(i'-off-n)=i':=by omega
         simp_all
end
end Go.Ab
namespace Go.Ab
open Go.RowKit
variable[Dr]
section
variable{S:Nat->Prop}{κ:Kap}{D:Nat->Prop}{w:World}
theorem zFb{z:Nat}:∀{es:List (List AV)} {j:Nat} {c:AV},(∀cs∈es,cs.length=z)->es.flatten[j]?=some c->∃r q cs,es[r]?=some cs/\cs[q]?=some c/\j=r*z+q
 |[],j,c,_,h=>by simp at h
 |cs::es,j,c,hz,h=>by
   rw[List.flatten_cons,zci]at h;split at h
   ·exact⟨0,j,cs,rfl,h,by simp⟩
   · rename_i hlt;have hl:=hz cs (by simp);obtain⟨r,q,cs',h1,h2,h3⟩:=zFb (λcs hcs=>hz cs (by simp[hcs])) h;refine⟨r+1,q,cs',by simpa using h1,h2,?_⟩
     grind
theorem zlo{L:Nat->Option Ent}{S':Nat->Prop}(hL:∀b ent,L b=some ent->EntAt S κ D w (κ b) ent)(hSS:∀g,S g->S' g):∀(k:Nat) {a a':AV} {x:Value},VRel S κ D w a x->snap L k a=some a'->(∀b∈a.ids L k,∀g c,κ b=some (g,c)->S' g)->CRel S' w a' x:=by
 intro k
 induction k with
 |zero=>intro a a' x _ h;simp[snap]at h
 |succ k ih =>
   intro a a' x hv h hids
   have lists:∀(cs l:List AV) (vs:Array Value),mapO (snap L k) cs=some l->vs.size=cs.length->(∀(j:Nat) (c:AV) (x:Value),cs[j]?=some c->vs[j]?=some x->VRel S κ D w c x)->(∀b∈cs.flatMap (AV.ids L k),∀g c,κ b=some (g,c)->S' g)->vs.size=l.length/\∀(j:Nat) (c:AV) (x:Value),l[j]?=some c->vs[j]?=some x->CRel S' w c x:=by
    intro cs l vs hm hl hr hid;obtain⟨h1,h2⟩:=zmq hm;refine⟨by omega,λj c x hj hx=>?_⟩;have hlt:j<cs.length:=by have:=(zam.1 hj).1;omega
    obtain⟨b,hb,hs⟩:=h2 j _ (zaa hlt);rw[hj]at hb;injection hb with hb;subst hb;exact ih (hr j _ x (zaa hlt) hx) hs (λb hb=>hid b (zb2.2 ⟨_,zar hlt,hb⟩))
   cases a with
   |v y=>simp[snap]at h;subst h;rw[hv.v_inv];exact .v _
   |sl z es=>simp[snap]at h;subst h;exact hv.sl_inv.mono hSS (λ_ _=>rfl)
   |fp cs=>simp[snap]at h;subst h;exact hv.fp_inv.mono hSS (λ_ _=>rfl)
   |agg cs =>
     simp only[snap]at h;split at h
     ·rename_i l hm;injection h with h;subst h;obtain⟨vs,rfl,hl,h1,hr⟩:=hv.agg_inv;obtain⟨q1,q2⟩:=lists cs l vs hm hl hr hids;exact .agg l vs q1 h1 q2
     ·cases h
   |tup cs =>
     simp only[snap]at h;split at h
     ·rename_i l hm;injection h with h;subst h;obtain⟨vs,rfl,hl,hr⟩:=hv.tup_inv;obtain⟨q1,q2⟩:=lists cs l vs hm hl hr hids;exact .tup l vs q1 q2
     ·cases h
   |fn f cs =>
     simp only[snap]at h;split at h
     ·rename_i l hm;injection h with h;subst h;obtain⟨vs,rfl,hl,hr⟩:=hv.fn_inv;obtain⟨q1,q2⟩:=lists cs l vs hm hl hr hids;exact .fn f l vs q1 q2
     ·cases h
   |row b z off n =>
     simp only[snap]at h;split at h
     case h_2=>cases h
     rename_i ent hl;split at h
     case isFalse=>cases h
     rename_i hc;obtain⟨rfl,hbx,hzp,hle⟩:=hc;injection h with h;subst h;obtain⟨hzz,hent⟩:=(hL b ent hl).1 (.inr hzp);have hlen:((ent.es.drop off).take n).length=n:=by simp;omega
     cases hv with
     |c h=>cases h
     |row0 _ _ hd hk=>exact .sl _ _ none 0 0 (λ_ _=>undef) (by simp) (zaX _) (by simp) (.inl (by simp)) (by simp)
     |row _ _ _ _ g c off' cap hd hk hnc ho hcc =>
       rw[hk]at hent;obtain⟨cells,hcells,hsz,hle2,hm,hnS,hcell⟩:=hent
       have hel:∀(i j:Nat) (cs:List AV) (c:AV),((ent.es.drop off).take n)[i]?=some cs->cs[j]?=some c->i<n/\∃u,cells[off*ent.z+(i*ent.z+j)]?=some u/\u.oneCell'=true/\CRel S w c u:=by
        intro i j cs c hi hj;rw[zch]at hi;split at hi
        case isFalse=>cases hi
        rename_i hin;rw[zb4]at hi;obtain⟨u,e1,e2,_,e4⟩:=hcell _ _ cs c hi hj;rw[zdD,zhc]at e1;exact⟨hin,u,e1,e2,e4 hbx⟩
       refine .sl _ _ (some ⟨g,off',none⟩) n cap (λi j=>(cells[off*ent.z+(i*ent.z+j)]?).getD undef) hlen.symm hnc (λcs hcs=>hzz cs (zhb (zeE hcs))) ?_ ?_
       · refine .inr ⟨_,rfl,hids b (by simp[AV.ids]) g c hk,λi j cs c hi hj=>?_⟩;obtain⟨hin,u,e1,e2,_⟩:=hel i j cs c hi hj
         have hoff:off'=off*ent.z:=by
          rcases ho with h|⟨h,_⟩
          ·exact h
          ·omega
         rw[add_at,cell_of_row w g _ cells ent.e (0,0) hcells,hoff,e1];exact⟨rfl,e2⟩
       ·intro i j cs c hi hj;obtain⟨hin,u,e1,e2,e3⟩:=hel i j cs c hi hj;rw[e1];exact e3.mono hSS (λ_ _=>rfl)
   |loc b z i o =>
     simp only[snap]at h;split at h
     case h_2=>cases h
     rename_i ent hl;split at h
     case isFalse=>cases h
     rename_i hz;obtain⟨rfl,hce⟩:=hz;split at h
     case h_2=>cases h
     rename_i cs hi;obtain⟨hzz,hent⟩:=(hL b ent hl).1 hce;obtain⟨g,c,hd,hk,rfl⟩:=hv.loc_inv;rw[hk]at hent;obtain⟨cells,hcells,hsz,hle2,hmx,hnS,hcell⟩:=hent
     have fin:∀l:List AV,(∀(j:Nat) (c:AV),l[j]?=some c->∃u,cells[i*ent.z+o+j]?=some u/\u.oneCell'=true/\CRel S' w c u)->CRel S' w (.fp l) (.pointer (some ⟨g,i*ent.z+o,none⟩)):=by
      intro l hel;refine .fp l _ (λj=>(cells[i*ent.z+o+j]?).getD undef) (hids b (by simp[AV.ids]) g c hk) (λj c hj=>?_) (λj c hj=>?_)
      ·obtain⟨u,e1,e2,_⟩:=hel j c hj;rw[add_at,cell_of_row w g _ cells ent.e (0,0) hcells,e1];exact⟨rfl,e2⟩
      ·grind
     cases hbx:ent.box with
     |true =>
       simp only[hbx,if_true]at h;split at h
       case h_2=>cases h
       rename_i l hm;injection h with h;subst h;obtain⟨h1,h2⟩:=zmq hm;refine fin l (λj c hj=>?_);have hlt:j<(cs.drop o).length:=by have:=(zam.1 hj).1;omega
       obtain⟨b',hb',hs⟩:=h2 j _ (zaa hlt);rw[hj]at hb';injection hb' with hb';subst hb';have hget:cs[o+j]?=some (cs.drop o)[j]:=by rw[<-zb4];exact zaa hlt
       obtain⟨u,e1,e2,e3,e4⟩:=hcell i (o+j) cs _ hi hget;rw[<-zhc]at e1;refine⟨u,e1,e2,ih (e3 hbx) hs (λb' hb'=>hids b' ?_)⟩;simp only[AV.ids,hl,hbx,if_true,hi]
       grind
     |false =>
       simp only[hbx,zbt,if_false]at h;split at h
       · rename_i hio;obtain⟨rfl,rfl⟩:=hio;injection h with h;subst h;refine .fa ent.z ent.es ⟨g,0*ent.z+0,none⟩ (λi j=>(cells[i*ent.z+j]?).getD undef) hzz (hids b (by simp[AV.ids]) g c hk) (λi j cs c hi hj=>?_) (λi j cs c hi hj=>?_)
         ·obtain⟨u,e1,e2,_,_⟩:=hcell i j cs c hi hj;rw[add_at,cell_of_row w g _ cells ent.e (0,0) hcells,Nat.zero_mul,zaY,e1];exact⟨rfl,e2⟩
         ·obtain⟨u,e1,e2,_,e4⟩:=hcell i j cs c hi hj;rw[e1];exact(e4 hbx).mono hSS (λ_ _=>rfl)
       injection h with h;subst h;refine fin _ (λj c hj=>?_);rw[zJ2,zb4]at hj;obtain⟨r,q,cs',h1,h2,h3⟩:=zFb (λcs hcs=>hzz cs (zhb hcs)) hj;rw[zb4]at h1;obtain⟨u,e1,e2,_,e4⟩:=hcell (i+r) q cs' c h1 h2;have:(i+r)*ent.z+q=i*ent.z+o+j:=by rw[zdD];omega
       rw[this]at e1;exact⟨u,e1,e2,(e4 hbx).mono hSS (λ_ _=>rfl)⟩
   |mp es=>simp[snap]at h;subst h;exact hv.mp_inv.mono hSS (λ_ _=>rfl)
   |fa z es=>simp[snap]at h;subst h;exact hv.fa_inv.mono hSS (λ_ _=>rfl)
   |map b =>
     simp only[snap]at h;split at h
     case h_2=>cases h
     rename_i ent hl;split at h
     case isFalse=>cases h
     rename_i hz;injection h with h;subst h;obtain⟨g,c,hd,hk,rfl⟩:=hv.map_inv;obtain⟨g',c',en,clock,hk',hn,hg,hlen,h1,h2,h3,h4⟩:=(hL b ent hl).2 (zxs hz.1 hz.2);rw[hk]at hk';simp only[zaf,zav]at hk';obtain⟨rfl,rfl⟩:=hk';exact .mp _ g en clock (hids b (by simp[AV.ids]) g c hk) hg hlen h1 h2 h3 (λi k v e hi he=>(h4 i k v e hi he).1.mono hSS (λ_ _=>rfl)) (λi k v e hi he=>(h4 i k v e hi he).2.mono hSS (λ_ _=>rfl))
   |_=>simp[snap]at h
end
theorem snap_ids{L:Nat->Option Ent}:∀(k:Nat) (a a':AV),snap L k a=some a'->∀b∈a.ids L k,(L b).isSome=true:=by
 intro k
 induction k with
 |zero=>intro a a' h;simp[snap]at h
 |succ k ih =>
   intro a a' h b hb
   have lists:∀(cs l:List AV),mapO (snap L k) cs=some l->b∈cs.flatMap (AV.ids L k)->(L b).isSome=true:=by intro cs l hm hb;obtain⟨c,hc,hb⟩:=zb2.1 hb;obtain⟨j,hj⟩:=zcG.1 hc;obtain⟨c',_,hs⟩:=(zmq hm).2 j c hj;exact ih c c' hs b hb
   cases a with
   |agg cs =>
     simp only[snap]at h;split at h
     ·rename_i l hm;exact lists cs l hm hb
     ·cases h
   |tup cs =>
     simp only[snap]at h;split at h
     ·rename_i l hm;exact lists cs l hm hb
     ·cases h
   |fn f cs =>
     simp only[snap]at h;split at h
     ·rename_i l hm;exact lists cs l hm hb
     ·cases h
   |row c z off n =>
     simp only[snap]at h;simp[AV.ids]at hb
     grind
   |loc c z i o =>
     simp only[snap]at h;split at h
     case h_2=>cases h
     rename_i ent hl;simp only[AV.ids,za4,hl]at hb
     grind
   |map c =>
     simp[AV.ids]at hb;subst hb;simp only[snap]at h
     grind
   |_=>simp[AV.ids]at hb
def Mine(w0:World)(κ0:Kap)(K:Nat->Prop)(g:Nat):Prop:=w0.heap.size<=g\/∃b c,b<1000/\K b/\κ0 b=some (g,c)
structure Good(w0:World)(S0:Nat->Prop)(κ0:Kap)(K:Nat->Prop)(N:Nat)(S:Nat->Prop)(κ:Kap)(T:Nat->AV)(L:Nat->Option Ent)(a:Act)(w:World):Prop where
 defers:a.defers=[]
 size:a.tmps.size=N
 os:w.os=w0.os
 tape:w.tape=w0.tape
 output:OutD w0 w
 grow:w0.heap.size<=w.heap.size
 old:∀g,g<w0.heap.size->(∀b c,K b->κ0 b≠some (g,c))->w.heap[g]?=w0.heap[g]?
 sup:∀g,S0 g->S g
 snew:∀g,S g->S0 g\/Mine w0 κ0 K g
 slt:∀g,S g->g<w.heap.size
 par:∀b,1000<=b->κ b=κ0 b
 parK:∀b,1000<=b->(L b).isSome=true->K b
 own:∀b g c,b<1000->(L b).isSome=true->κ b=some (g,c)->Mine w0 κ0 K g
 inj:∀b b' g c c',(L b).isSome=true->(L b').isSome=true->κ b=some (g,c)->κ b'=some (g,c')->b=b'
 ents:∀b ent,L b=some ent->EntAt S κ (λb=>(L b).isSome=true) w (κ b) ent
 slots:∀k,VRel S κ (λb=>(L b).isSome=true) w (T k) (a.tmps.getD k undef)
def killE(b:Nat)(e:Ent):Ent:=if e.box then{ e with es:=e.es.map λcs=>cs.map (AV.kill b 4) }else e
def killL(b:Nat)(L:Nat->Option Ent):Nat->Option Ent:=λc=>if c=b then none else(L c).map (killE b)
theorem zot(b:Nat):∀(t:Tab) (k:Nat),get (killT b t) k=(get t k).kill b 4
 |[],k=>rfl
 |(j,a)::r,k=>by
   simp only[killT,get];split
   ·rfl
   ·exact zot b r k
theorem ziq(b:Nat):∀(m:Mem) (c:Nat),look (delM b m) c=killL b (look m) c
 |[],c=>by simp[delM,look,killL]
 |(j,e)::r,c=>by
   have ih:=ziq b r c;simp only[delM,killL,look]at *;by_cases hj:j=b
   ·simp_all
   · simp only[hj,if_false,look];by_cases hc:c=j
     ·subst hc;simp[hj,killE]
     simp_all
section
variable{S:Nat->Prop}{κ:Kap}{D D':Nat->Prop}{w:World}
theorem zua{b:Nat}(hD:∀c,D c->c≠b->D' c):∀(k:Nat) {a:AV} {x:Value},VRel S κ D w a x->VRel S κ D' w (a.kill b k) x:=by
 intro k
 induction k with
 |zero=>intro a x _;exact .bot x
 |succ k ih =>
   intro a x h
   have lists:∀(cs:List AV) (vs:Array Value),vs.size=cs.length->(∀(j:Nat) (c:AV) (x:Value),cs[j]?=some c->vs[j]?=some x->VRel S κ D w c x)->vs.size=(cs.map (AV.kill b k)).length/\∀(j:Nat) (c:AV) (x:Value),(cs.map (AV.kill b k))[j]?=some c->vs[j]?=some x->VRel S κ D' w c x:=by
    intro cs vs hl hr;refine⟨by simpa using hl,λj c x hj hx=>?_⟩;rw[zbC]at hj
    cases hc:cs[j]? with
    |none=>simp[hc]at hj
    |some c'=>grind
   cases a with
   |bot=>exact .bot x
   |v y=>rw[h.v_inv];exact .c (.v _)
   |sl z es=>exact .c h.sl_inv
   |fp cs=>exact .c h.fp_inv
   |agg cs=>obtain⟨vs,rfl,hl,h1,hr⟩:=h.agg_inv;obtain⟨q1,q2⟩:=lists cs vs hl hr;exact .agg _ vs q1 h1 q2
   |tup cs=>obtain⟨vs,rfl,hl,hr⟩:=h.tup_inv;obtain⟨q1,q2⟩:=lists cs vs hl hr;exact .tup _ vs q1 q2
   |fn f cs=>obtain⟨vs,rfl,hl,hr⟩:=h.fn_inv;obtain⟨q1,q2⟩:=lists cs vs hl hr;exact .fn f _ vs q1 q2
   |loc c z i o =>
     obtain⟨g,cp,hd,hk,rfl⟩:=h.loc_inv;simp only[AV.kill];split
     ·exact .bot _
     ·rename_i hne;exact .loc c z i o g cp (hD c hd hne) hk
   |row c z o n =>
     simp only[AV.kill];split
     ·exact .bot _
     · rename_i hne
       cases h with
       |c h=>cases h
       |row0 _ _ hd hk=>exact .row0 c z (hD c hd hne) hk
       |row _ _ _ _ g cp off' cap hd hk hn ho hc=>exact .row c z o n g cp off' cap (hD c hd hne) hk hn ho hc
   |map c =>
     obtain⟨g,cp,hd,hk,rfl⟩:=h.map_inv;simp only[AV.kill];split
     ·exact .bot _
     ·rename_i hne;exact .map c g cp (hD c hd hne) hk
   |mp es=>exact .c h.mp_inv
   |fa z es=>exact .c h.fa_inv
   |new=>exact .bot x
   |newp=>exact .bot x
   |newm=>exact .bot x
theorem ent_map{f:AV->AV}{kb:Option (Nat×Nat)}{ent:Ent}(h:EntAt S κ D w kb ent)(hf:∀a x,VRel S κ D w a x->VRel S κ D' w (f a) x):EntAt S κ D' w kb (if ent.box then{ ent with es:=ent.es.map λcs=>cs.map f }else ent):=by
 cases hb:ent.box with
 |false =>
   simp only[zbt,if_false];refine⟨λhce=>?_,h.2⟩;obtain⟨h1,h2⟩:=h.1 hce;refine⟨h1,?_⟩
   simp_all
 |true =>
   simp only[if_true];obtain⟨h1,h2⟩:=h.1 (.inl hb);refine EntAt.of (.inl rfl) ⟨λcs hcs=>?_,?_⟩
   ·grind
   · cases kb with
     |none=>simp_all
     |some gc =>
       obtain⟨g,c⟩:=gc;obtain⟨cells,q1,q2,q3,q4,q5,q6⟩:=h2;refine⟨cells,q1,q2,by simpa using q3,by simpa[Ent.cap,hb]using q4,q5,λi j cs a hi hj=>?_⟩
       grind
end
section
variable{w0:World}{S0:Nat->Prop}{κ0:Kap}{K:Nat->Prop}{N:Nat}{S:Nat->Prop}{κ:Kap}{T:Nat->AV}{L:Nat->Option Ent}{a:Act}{w:World}
theorem Good.del(h:Good w0 S0 κ0 K N S κ T L a w)(b:Nat):Good w0 S0 κ0 K N S κ (λk=>(T k).kill b 4) (killL b L) a w:=by
 have hsome:∀c,(killL b L c).isSome=true->(L c).isSome=true:=by
  intro c hc;simp only[killL]at hc;split at hc
  ·cases hc
  ·simpa using hc
 have hD:∀c,(L c).isSome=true->c≠b->(killL b L c).isSome=true:=by intro c hc hne;simp[killL,hne];exact hc
 exact{
  defers:=h.defers
  size:=h.size
  os:=h.os
  tape:=h.tape
  output:=h.output
  grow:=h.grow
  old:=h.old
  sup:=h.sup
  snew:=h.snew
  slt:=h.slt
  par:=h.par
  parK:=λc hc hs=>h.parK c hc (hsome c hs)
  own:=λc g cp hc hs=>h.own c g cp hc (hsome c hs)
  inj:=λc c' g cp cp' h1 h2=>h.inj c c' g cp cp' (hsome c h1) (hsome c' h2)
  ents:=λc ent hc=>by
   simp only[killL]at hc;split at hc
   ·cases hc
   · rename_i hne
     cases hl:L c with
     |none=>simp[hl]at hc
     |some e=>simp[hl]at hc;subst hc;exact ent_map (h.ents c e hl) (λa x hx=>zua hD 4 hx)
  slots:=λk=>zua hD 4 (h.slots k) }
end
def frzE(bs:List Nat)(L:Nat->Option Ent)(e:Ent):Ent:=if e.box then{ e with es:=e.es.map λcs=>cs.map (zfu bs L 4) }else e
def frzL(bs:List Nat)(L:Nat->Option Ent):Nat->Option Ent:=λc=>if bs.contains c then none else(L c).map (frzE bs L)
theorem zwz(bs:List Nat)(L:Nat->Option Ent):∀(t:Tab) (k:Nat),get (zut bs L t) k=zfu bs L 4 (get t k)
 |[],k=>rfl
 |(j,a)::r,k=>by
   simp only[zut,get];split
   ·rfl
   ·exact zwz bs L r k
theorem zu8(bs:List Nat)(L0:Nat->Option Ent):∀(m:Mem) (c:Nat),look (zqF bs L0 m) c=if bs.contains c then none else(look m c).map (frzE bs L0)
 |[],c=>by simp[zqF,look]
 |(j,e)::r,c=>by
   have ih:=zu8 bs L0 r c;simp only[zqF,look]at *;by_cases hj:bs.contains j=true
   ·grind
   · simp only[hj,if_false,look,zbt];by_cases hc:c=j
     ·subst hc;simp only[hj,if_true,if_false,zbt,zbg,frzE]
     simp_all
section
variable{S S':Nat->Prop}{κ:Kap}{D D':Nat->Prop}{w:World}
theorem ids_D{L:Nat->Option Ent}(hL:∀b ent,L b=some ent->EntAt S κ D w (κ b) ent):∀(k:Nat) (a:AV) (x:Value),VRel S κ D w a x->∀b∈a.ids L k,D b:=by
 intro k
 induction k with
 |zero=>intro a x _ b hb;simp[AV.ids]at hb
 |succ k ih =>
   intro a x h b hb
   have lists:∀(cs:List AV) (vs:Array Value),vs.size=cs.length->(∀(j:Nat) (c:AV) (x:Value),cs[j]?=some c->vs[j]?=some x->VRel S κ D w c x)->b∈cs.flatMap (AV.ids L k)->D b:=by
    intro cs vs hl hr hb;obtain⟨c,hc,hb⟩:=zb2.1 hb;obtain⟨j,hj⟩:=zcG.1 hc;have hlt:j<vs.size:=by have:=(zam.1 hj).1;omega
    exact ih c _ (hr j c _ hj (zaU hlt)) b hb
   cases a with
   |agg cs=>obtain⟨vs,rfl,hl,h1,hr⟩:=h.agg_inv;exact lists cs vs hl hr hb
   |tup cs=>obtain⟨vs,rfl,hl,hr⟩:=h.tup_inv;exact lists cs vs hl hr hb
   |fn f cs=>obtain⟨vs,rfl,hl,hr⟩:=h.fn_inv;exact lists cs vs hl hr hb
   |row c z o n =>
     simp[AV.ids]at hb;subst hb
     cases h with
     |c h=>cases h
     |row0 _ _ hd _=>exact hd
     |row _ _ _ _ _ _ _ _ hd=>exact hd
   |loc c z i o =>
     obtain⟨g,cp,hd,hk,rfl⟩:=h.loc_inv;simp only[AV.ids,za4]at hb;rcases hb with rfl|hb
     ·exact hd
     · cases hl:L c with
       |none=>simp[hl]at hb
       |some ent =>
         simp only[hl]at hb;split at hb
         · rename_i hbx;split at hb
           · rename_i cs hi';obtain⟨av,hav,hb⟩:=zb2.1 hb;obtain⟨j,hj⟩:=zcG.1 hav;rw[zb4]at hj;have hent:=((hL c ent hl).1 (.inl hbx)).2
             grind
           ·cases hb
         ·cases hb
   |map c=>simp[AV.ids]at hb;subst hb;obtain⟨g,cp,hd,hk,rfl⟩:=h.map_inv;exact hd
   |_=>simp[AV.ids]at hb
theorem zJh{bs:List Nat}{L:Nat->Option Ent}(hL:∀b ent,L b=some ent->EntAt S κ D w (κ b) ent)(hSS:∀g,S g->S' g)(hbs:∀b∈bs,D b->∀g c,κ b=some (g,c)->S' g)
  (hD:∀c,D c->bs.contains c=false->D' c):∀(k:Nat) {a:AV} {x:Value},VRel S κ D w a x->VRel S' κ D' w (zfu bs L k a) x:=by
 intro k
 induction k with
 |zero=>intro a x _;exact .bot x
 |succ k ih =>
   intro a x h
   have lists:∀(cs:List AV) (vs:Array Value),vs.size=cs.length->(∀(j:Nat) (c:AV) (x:Value),cs[j]?=some c->vs[j]?=some x->VRel S κ D w c x)->vs.size=(cs.map (zfu bs L k)).length/\∀(j:Nat) (c:AV) (x:Value),(cs.map (zfu bs L k))[j]?=some c->vs[j]?=some x->VRel S' κ D' w c x:=by
    intro cs vs hl hr;refine⟨by simpa using hl,λj c x hj hx=>?_⟩;rw[zbC]at hj
    cases hc:cs[j]? with
    |none=>simp[hc]at hj
    |some c'=>grind
   have snp:∀{a:AV},VRel S κ D w a x->(∀b∈a.ids L 5,bs.contains b=true)->VRel S' κ D' w ((snap L 5 a).getD .bot) x:=by
    intro a ha hall
    cases hs:snap L 5 a with
    |none=>exact .bot x
    |some a'=>refine .c (zlo hL hSS 5 ha hs (λb hb g c hk=>?_));exact hbs b (by simpa using hall b hb) (ids_D hL 5 a x ha b hb) g c hk
   cases a with
   |bot=>exact .bot x
   |v y=>rw[h.v_inv];exact .c (.v _)
   |sl z es=>exact .c (h.sl_inv.mono hSS (λ_ _=>rfl))
   |fp cs=>exact .c (h.fp_inv.mono hSS (λ_ _=>rfl))
   |agg cs=>obtain⟨vs,rfl,hl,h1,hr⟩:=h.agg_inv;obtain⟨q1,q2⟩:=lists cs vs hl hr;exact .agg _ vs q1 h1 q2
   |tup cs=>obtain⟨vs,rfl,hl,hr⟩:=h.tup_inv;obtain⟨q1,q2⟩:=lists cs vs hl hr;exact .tup _ vs q1 q2
   |fn f cs=>obtain⟨vs,rfl,hl,hr⟩:=h.fn_inv;obtain⟨q1,q2⟩:=lists cs vs hl hr;exact .fn f _ vs q1 q2
   |loc c z i o =>
     simp only[zfu];split
     · split
       ·simp_all
       ·exact .bot _
     ·rename_i hne;obtain⟨g,cp,hd,hk,rfl⟩:=h.loc_inv;exact .loc c z i o g cp (hD c hd (by simpa using hne)) hk
   |row c z o n =>
     simp only[zfu];split
     ·rename_i hin;exact snp h (λb hb=>by simp[AV.ids]at hb;rw[hb];exact hin)
     · rename_i hne
       cases h with
       |c h=>cases h
       |row0 _ _ hd hk=>exact .row0 c z (hD c hd (by simpa using hne)) hk
       |row _ _ _ _ g cp off' cap hd hk hn ho hc=>exact .row c z o n g cp off' cap (hD c hd (by simpa using hne)) hk hn ho hc
   |map c =>
     simp only[zfu];split
     ·rename_i hin;exact snp h (λb hb=>by simp[AV.ids]at hb;rw[hb];exact hin)
     ·rename_i hne;obtain⟨g,cp,hd,hk,rfl⟩:=h.map_inv;exact .map c g cp (hD c hd (by simpa using hne)) hk
   |mp es=>exact .c (h.mp_inv.mono hSS (λ_ _=>rfl))
   |fa z es=>exact .c (h.fa_inv.mono hSS (λ_ _=>rfl))
   |new=>exact .bot x
   |newp=>exact .bot x
   |newm=>exact .bot x
end
end Go.Ab
end
