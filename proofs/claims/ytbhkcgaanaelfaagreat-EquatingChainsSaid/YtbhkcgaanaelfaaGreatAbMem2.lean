/- Stores, appends and copies. -/
import Derived.Test.YtbhkcgaanaelfaaGreatAbMem
namespace Go.Ab
open Go.RowKit
section
variable {P:Program} {S:Nat→Prop} {κ:Kap} {D:Nat→Prop} {w:World}
theorem EffAt.update {b g c:Nat} {ent:Ent} {cur cells:Array Value} {r:Res} {y:Value} (hS:∀ g,S g→g < w.heap.size) (hd:D b) (hκ:κ b=some (g,c)) (hset:r.set=[(b,ent)]) (hk:r.kill=none) (hf:r.frz=[]) (hcl:ent.cell)
  (hg:w.heap[g]?=some (.cells cur ent.e (0,0))) (hnS:¬ S g)
  (hz:∀ cs∈ent.es,cs.length=ent.z) (hsz:cells.size=c*ent.z) (hc:ent.es.length≤c) (hm:c≤maxLen)
  (hcell:∀ (i j:Nat) (cs:List AV) (a:AV),ent.es[i]?=some cs→cs[j]?=some a→∃ u,cells[i*ent.z+j]?=some u∧u.oneCell'=true∧(ent.box=true→VRel S κ D w a u)∧(ent.box=false→CRel S w a u))
  (hv:VRel S κ D w r.val y):EffAt S κ D w S κ r y (w.setRow g cells):=by
 have hSw:∀ g',S g'→(w.setRow g cells).heap[g']?=w.heap[g']?:=fun g' h=>setRow_other w g g' cells (fun e=>hnS (by rw [← e]; exact h))
 have hDD:∀ b,D b→D1 D r b:=fun b hb=>.inl ⟨hb,by simp [hk],by simp [hf]⟩
 exact {
  os:=rfl
  tape:=rfl
  output:=rfl
  size:=by simp
  blk:=fun g' hg' hb=>setRow_other w g g' cells (fun e=>hb b c (.inl (by simp [ids,hset])) hd (by rw [e]; exact hκ))
  sup:=fun _ h=>h
  snew:=fun _ h=>.inl h
  slt:=fun g' h=>by simpa using hS g' h
  sfrz:=fun b' hb=>by rw [hf] at hb; cases hb
  kold:=fun _ _=>rfl
  kout:=fun _ _=>rfl
  knew:=fun b' h hb=>by
   simp [ids,hset] at hb
   subst hb
   exact absurd hd h
  one:=fun b' b'' h _ hb=>by
   simp [ids,hset] at hb
   subst hb
   exact absurd hd h
  ents:=fun b' e hb=>by
   simp [hset] at hb
   obtain ⟨rfl,rfl⟩:=hb
   refine EntAt.of hcl ⟨hz,?_⟩
   rw [hκ]
   refine ⟨cells,setRow_heap w g cur cells _ (0,0) hg,hsz,hc,hm,hnS,fun i j cs a hi hj=>?_⟩
   obtain ⟨u,h1,h2,h3,h4⟩:=hcell i j cs a hi hj
   exact ⟨u,h1,h2,fun hb=>(h3 hb).mono (fun _ h=>h) hSw hDD (fun _ _=>rfl),fun hb=>(h4 hb).mono (fun _ h=>h) hSw⟩
  val:=hv.mono (fun _ h=>h) hSw hDD (fun _ _=>rfl) }
theorem zro {A:Array Value} {o k:Nat} {vs:List Value} (h:o+vs.length≤A.size) :
  (A.toList.take o++vs++A.toList.drop (o+vs.length)).toArray[k]?=if k < o then A[k]? else if k < o+vs.length then vs[k - o]? else A[k]?:=by
 rw [List.getElem?_toArray,List.append_assoc,List.getElem?_append]
 have hl:(A.toList.take o).length=o:=by simp; omega
 rw [hl]
 split
 · rename_i h1
   rw [List.getElem?_take,if_pos h1]; simp
 · rw [List.getElem?_append]
   split
   · rw [if_pos (by omega)]
   · rw [if_neg (by omega),List.getElem?_drop]
     simp only [Array.getElem?_toList]
     congr 1
     omega
theorem idx_lt {i j n z:Nat} (hi:i < n) (hj:j < z):i*z+j < n*z:=by
 have:(i+1)*z≤n*z:=Nat.mul_le_mul_right _ hi
 rw [Nat.succ_mul] at this
 omega
theorem idx_inj {i i' j j' z:Nat} (hj:j < z) (hj':j' < z) (h:i*z+j=i'*z+j'):i=i'∧j=j':=by
 have hz:0 < z:=by omega
 have h1:(i*z+j) / z=i:=by rw [Nat.mul_comm,Nat.mul_add_div hz,Nat.div_eq_of_lt hj,Nat.add_zero]
 have h2:(i'*z+j') / z=i':=by rw [Nat.mul_comm,Nat.mul_add_div hz,Nat.div_eq_of_lt hj',Nat.add_zero]
 have:i=i':=by rw [← h1,← h2,h]
 subst this
 exact ⟨rfl,by omega⟩
theorem zxw {L:Nat→Option Ent} {t:TypeId} {x a:AV} {r:Res} {vx va:Value} (hS:∀ g,S g→g < w.heap.size) (h:aStore P L t x a=some r)
  (hx:VRel S κ D w x vx) (ha:VRel S κ D w a va) (hL:∀ b ent,L b=some ent→EntAt S κ D w (κ b) ent) :
  ∃ w',(Instr.storeAt t va vx).run P w=.ok () w'∧∀ y,EffAt S κ D w S κ r y w':=by
 unfold aStore at h
 split at h
 case h_2=>cases h
 rename_i b z i o
 obtain ⟨g,c,hd,hk,rfl⟩:=ha.loc_inv
 split at h
 case h_2=>cases h
 rename_i ent n hl hs
 split at h
 case isFalse=>cases h
 rename_i hc
 obtain ⟨⟨rfl,hce⟩,hlen,h1,hcl⟩:=hc
 split at h
 case h_2=>cases h
 rename_i cs hi
 split at h
 case isFalse=>cases h
 rename_i hon
 injection h with h
 subst h
 obtain ⟨hz,hent⟩:=(hL b ent hl).1 hce
 rw [hk] at hent
 obtain ⟨cells,hcells,hsz,hle,hm,hnS,hcell⟩:=hent
 obtain ⟨c1,c2,c3⟩:=zog h1 hx
 have hcsl:cs.length=ent.z:=hz cs (List.mem_of_getElem? hi)
 have hilt:i < ent.es.length:=(List.getElem?_eq_some_iff.1 hi).1
 have hb:i*ent.z+o+vx.cells.toList.length≤cells.size:=by
  rw [hsz]
  have:(i+1)*ent.z≤c*ent.z:=Nat.mul_le_mul_right _ (by omega)
  rw [Nat.succ_mul] at this
  simp [c1]; omega
 have hrun:=run_storeCells_at P g (i*ent.z+o) ent.e vx.cells.toList 0 cells w hcells (by simpa using hb) (by simpa using c2)
 simp only [Nat.add_zero] at hrun
 refine ⟨_,?_,fun y=>EffAt.update (b:=b) (g:=g) (c:=c) (ent:={ ent with es:=ent.es.set i (splice cs o x.cells) }) (cells:=(cells.toList.take (i*ent.z+o)++vx.cells.toList++cells.toList.drop (i*ent.z+o+vx.cells.toList.length)).toArray) hS hd hk rfl rfl rfl hce hcells hnS ?_ ?_ ?_ hm ?_ (.bot y)⟩
 · have hne:¬ (vx.cells.size≠n):=by simp; omega
   simp only [Instr.storeAt,Instr.sureAddr,storeVar,Sem.run_bind,Sem.run_pure,Result.andThen_ok,zbs hs,hne,if_false]
   exact hrun
 · intro cs' hcs'
   rcases List.mem_or_eq_of_mem_set hcs' with h' | h'
   · exact hz cs' h'
   · rw [h',zkC (by omega)]; exact hcsl
 · simp only [List.size_toArray,List.length_append,List.length_take,List.length_drop,Array.length_toList] at hb ⊢
   omega
 · simpa using hle
 · intro i' j cs' av hi' hj
   simp only at hi' ⊢
   rw [List.getElem?_set] at hi'
   have hxl:vx.cells.toList.length=x.cells.length:=by simpa using c1
   by_cases hii:i=i'
   · subst hii
     simp [hilt] at hi'
     subst hi'
     have hjl:j < cs.length:=by have:=(List.getElem?_eq_some_iff.1 hj).1; rwa [zkC (by omega)] at this
     rw [ztj (by omega)] at hj
     rw [zro (by omega)]
     by_cases h4:j < o
     · rw [if_pos h4] at hj
       rw [if_pos (by omega)]
       exact hcell i j cs av hi hj
     · rw [if_neg h4] at hj
       by_cases h5:j < o+x.cells.length
       · rw [if_pos h5] at hj
         rw [if_neg (by omega),if_pos (by omega)]
         have hlt:j - o < vx.cells.size:=by omega
         have he:i*ent.z+j - (i*ent.z+o)=j - o:=by omega
         rw [he]
         refine ⟨vx.cells[j - o],by simp [hlt],c2 _ (Array.getElem_mem hlt),fun _=>c3 _ av _ hj (Array.getElem?_eq_getElem hlt),fun hb=>?_⟩
         rcases hcl with h | h
         · rw [h] at hb; cases hb
         · exact zkY 4 (zeC h av (List.mem_of_getElem? hj)) (c3 _ av _ hj (Array.getElem?_eq_getElem hlt))
       · rw [if_neg h5] at hj
         rw [if_neg (by omega),if_neg (by omega)]
         exact hcell i j cs av hi hj
   · rw [if_neg hii] at hi'
     have hjl:j < ent.z:=by rw [← hz cs' (List.mem_of_getElem? hi')]; exact (List.getElem?_eq_some_iff.1 hj).1
     rw [zro (by omega)]
     have hout:∀ q,o≤q→q < o+x.cells.length→i'*ent.z+j≠i*ent.z+q:=fun q h6 h7 e=>hii ((idx_inj hjl (show q < ent.z by omega) e).1.symm)
     by_cases h4:i'*ent.z+j < i*ent.z+o
     · rw [if_pos h4]
       exact hcell i' j cs' av hi' hj
     · rw [if_neg h4]
       rw [if_neg]
       · exact hcell i' j cs' av hi' hj
       · intro h5
         exact hout (i'*ent.z+j - i*ent.z) (by omega) (by omega) (by omega)
theorem zuY {L:Nat→Option Ent} {z:Nat} {x:AV} {new:List (List AV)} {vx:Value} (hz:0 < z) (h:srcOf L z x=some new) (hx:VRel S κ D w x vx) (hL:∀ b ent,L b=some ent→EntAt S κ D w (κ b) ent) :
  ∃ (A:Option Addr) (c:Nat) (news:List Value),vx=.slice A new.length c∧news.length=new.length*z∧(∀ u∈news,u.oneCell'=true)∧(A=none→new=[]) ∧
    (∀ a,A=some a→∀ j u,news[j]?=some u→w.cell? (a.add j)=some u)∧(∀ cs∈new,cs.length=z) ∧
    ∀ (i j:Nat) (cs:List AV) (c:AV),new[i]?=some cs→cs[j]?=some c→∃ u,news[i*z+j]?=some u∧CRel S w c u:=by
 unfold srcOf at h
 split at h
 · injection h with h
   subst h
   rw [hx.v_inv]
   exact ⟨none,0,[],rfl,by simp,by simp,by simp,by simp,by simp,by simp⟩
 · rename_i z' es
   split at h
   case isFalse=>cases h
   rename_i hzz
   subst hzz
   injection h with h
   subst h
   have hf:=hx.sl_inv
   cases hf with
   | sl _ _ A len cap u hlen hcap hzz ha hr =>
     have hget:∀ k,k < es.length*z'→∃ cs c,es[k / z']?=some cs∧cs[k % z']?=some c:=by
      intro k hk
      have h1:k / z' < es.length:=by rw [Nat.div_lt_iff_lt_mul hz]; exact hk
      have h2:k % z' < es[k / z'].length:=by rw [hzz _ (List.getElem_mem h1)]; exact Nat.mod_lt _ hz
      exact ⟨_,_,List.getElem?_eq_getElem h1,List.getElem?_eq_getElem h2⟩
     have hdm:∀ k,k / z'*z'+k % z'=k:=fun k=>by rw [Nat.mul_comm]; exact Nat.div_add_mod k z'
     refine ⟨A,cap,(List.range (es.length*z')).map fun k=>u (k / z') (k % z'),by rw [hlen],by simp,?_,?_,?_,hzz,?_⟩
     · intro q hq
       simp at hq
       obtain ⟨k,hk,rfl⟩:=hq
       obtain ⟨cs,c,h1,h2⟩:=hget k hk
       rcases ha with h0 | ⟨a,_,_,hc⟩
       · subst h0; simp at hk
       · exact (hc _ _ cs c h1 h2).2
     · intro hA
       rcases ha with h0 | ⟨a,hA',_⟩
       · exact h0
       · rw [hA] at hA'; cases hA'
     · intro a hA j q hq
       obtain ⟨hj,rfl⟩:=zra hq
       obtain ⟨cs,c,h1,h2⟩:=hget j hj
       rcases ha with h0 | ⟨a',hA',_,hc⟩
       · subst h0; simp at hj
       · rw [hA] at hA'
         injection hA' with hA'
         subst hA'
         have:=(hc _ _ cs c h1 h2).1
         rwa [hdm] at this
     · intro i j cs c hi hj
       have h1:i < es.length:=(List.getElem?_eq_some_iff.1 hi).1
       have h2:j < z':=by rw [← hzz cs (List.mem_of_getElem? hi)]; exact (List.getElem?_eq_some_iff.1 hj).1
       have hlt:=idx_lt h1 h2
       have e1:(i*z'+j) / z'=i:=by rw [Nat.mul_comm,Nat.mul_add_div hz,Nat.div_eq_of_lt h2,Nat.add_zero]
       have e2:(i*z'+j) % z'=j:=by rw [Nat.mul_comm,Nat.mul_add_mod,Nat.mod_eq_of_lt h2]
       refine ⟨u i j,?_,hr i j cs c hi hj⟩
       rw [List.getElem?_map,List.getElem?_range hlt]
       simp [e1,e2]
 · rename_i b z' off n
   split at h
   case h_2=>cases h
   rename_i ent hl
   split at h
   case isFalse=>cases h
   rename_i hc
   obtain ⟨rfl,rfl,hbx,hzp,hle⟩:=hc
   injection h with h
   subst h
   obtain ⟨hzz,hent⟩:=(hL b ent hl).1 (.inr hzp)
   have hlen:((ent.es.drop off).take n).length=n:=by simp; omega
   cases hx with
   | c h=>cases h
   | row0 _ _ hd hk=>exact ⟨none,0,[],by simp,by simp,by simp,by simp,by simp,by simp,by simp⟩
   | row _ _ _ _ g c off' cap hd hk hnc ho hc =>
     rw [hk] at hent
     obtain ⟨cells,hcells,hsz,hle2,hm,hnS,hcell⟩:=hent
     have hall:off*ent.z+n*ent.z≤cells.size:=by
      rw [hsz,← Nat.add_mul]; exact Nat.mul_le_mul_right _ (by omega)
     have hget:∀ k u,((cells.toList.drop (off*ent.z)).take (n*ent.z))[k]?=some u→k < n*ent.z∧cells[off*ent.z+k]?=some u:=by
      intro k u hk
      rw [List.getElem?_take] at hk
      split at hk
      · rename_i hlt
        rw [List.getElem?_drop] at hk
        exact ⟨hlt,by simpa using hk⟩
      · cases hk
     refine ⟨some ⟨g,off',none⟩,cap,(cells.toList.drop (off*ent.z)).take (n*ent.z),by rw [hlen],by rw [hlen]; simp; omega,?_,by simp,?_,?_,?_⟩
     · intro q hq
       obtain ⟨k,hk'⟩:=List.mem_iff_getElem?.1 hq
       obtain ⟨hlt,hq'⟩:=hget k q hk'
       have h1:k / ent.z < n:=by rw [Nat.div_lt_iff_lt_mul hz]; exact hlt
       have h1':off+k / ent.z < ent.es.length:=by omega
       have h2:k % ent.z < ent.es[off+k / ent.z].length:=by rw [hzz _ (List.getElem_mem h1')]; exact Nat.mod_lt _ hz
       obtain ⟨u,e1,e2,_⟩:=hcell _ _ _ _ (List.getElem?_eq_getElem h1') (List.getElem?_eq_getElem h2)
       have:(off+k / ent.z)*ent.z+k % ent.z=off*ent.z+k:=by
        rw [Nat.add_mul,Nat.add_assoc,Nat.mul_comm (k / ent.z),Nat.div_add_mod]
       rw [this,hq'] at e1
       injection e1 with e1
       subst e1
       exact e2
     · intro a hA j u hu
       injection hA with hA
       subst hA
       obtain ⟨hlt,hq⟩:=hget j u hu
       have hoff:off'=off*ent.z:=by
        rcases ho with h | ⟨h,_⟩
        · exact h
        · subst h; simp at hlt
       rw [add_at,cell_of_row w g _ cells ent.e (0,0) hcells,hoff]
       exact hq
     · intro cs hcs
       exact hzz cs (List.mem_of_mem_drop (List.mem_of_mem_take hcs))
     · intro i j cs c hi hj
       rw [List.getElem?_take] at hi
       split at hi
       case isFalse=>cases hi
       rename_i hin
       rw [List.getElem?_drop] at hi
       have h2:j < ent.z:=by rw [← hzz cs (List.mem_of_getElem? hi)]; exact (List.getElem?_eq_some_iff.1 hj).1
       obtain ⟨u,e1,e2,_,e4⟩:=hcell _ _ cs c hi hj
       refine ⟨u,?_,e4 hbx⟩
       rw [List.getElem?_take,if_pos (idx_lt hin h2),List.getElem?_drop]
       rw [Nat.add_mul,Nat.add_assoc] at e1
       simpa using e1
 · cases h
theorem zuP {t ty e:TypeId} {i:TypeInfo} {size n c base:Nat} {v:Value} {xs:List Value} (ht:P.underlying t=some (.slice e)) (hi:P.info? e=some i)
  (hown:w.ownsRow base e size v n xs):(Builtin.append_ #[t,t] ty #[v,.slice none 0 c]).run P w=.ok v w:=by
 rcases hown.2 with ⟨rfl,rfl⟩ | ⟨g,cap,cur,rfl,_,_,hnc,_⟩
 · simp [Builtin.append_,run_underlying ht,sizeOf,typeInfo,hi,Builtin.lenOf,Builtin.firstCells]
 · simp [Builtin.append_,run_underlying ht,sizeOf,typeInfo,hi,Builtin.lenOf,Builtin.firstCells,hnc,storeCells]
theorem zvK {L:Nat→Option Ent} {t ty:TypeId} {d:Nat} {s x:AV} {r:Res} {vs vx:Value} (hS:∀ g,S g→g < w.heap.size) (hd:¬ D d)
  (h:ziy P L d t s x=some r) (hs:VRel S κ D w s vs) (hx:VRel S κ D w x vx) (hL:∀ b ent,L b=some ent→EntAt S κ D w (κ b) ent) :
  ∃ y w' κ',(Builtin.append_ #[t,t] ty #[vs,vx]).run P w=.ok y w'∧EffAt S κ D w S κ' r y w':=by
 unfold ziy at h
 split at h
 case h_2=>cases h
 rename_i e hu
 split at h
 case h_2=>cases h
 rename_i i zero hi hz
 split at h
 case isFalse=>cases h
 rename_i hpos
 obtain ⟨hpos,hzl⟩:=hpos
 obtain ⟨i',zv,hi',hzz,rfl⟩:=zf2 hz
 rw [hi] at hi'
 injection hi' with hi'
 subst hi'
 have hzs:zv.cells.size=i.size:=by simpa using hzl
 split at h
 case h_2=>cases h
 rename_i new hsrc
 obtain ⟨A,c,news,rfl,hnl,hn1,hA0,hAc,hnz,hncell⟩:=zuY hpos hsrc hx hL
 have main:∀ (old:List (List AV)) (xs:List Value) (kill:Option Nat) (kb:Option (Nat×Nat)),w.ownsRow 0 e i.size vs old.length xs →
   (∀ cs∈old,cs.length=i.size)→(∀ (i' j:Nat) (cs:List AV) (c:AV),old[i']?=some cs→cs[j]?=some c→∃ u,xs[i'*i.size+j]?=some u∧u.oneCell'=true∧CRel S w c u) →
   (old.length+new.length)*(i.bytes+1)≤1099511627776→(∀ g,vs.ownBlock=some g→¬ S g∧∃ b c,kill=some b∧D b∧κ b=some (g,c))→kill≠some d →
   r={ val:=.row d i.size 0 (old++new).length,set:=[(d,{ z:=i.size,e:=e,es:=old++new,box:=false })],kill:=kill } →
   ∃ y w' κ',(Builtin.append_ #[t,t] ty #[vs,.slice A new.length c]).run P w=.ok y w'∧EffAt S κ D w S κ' r y w':=by
  intro old xs kill kb hown hoz hocell hby hob hkd hr
  rw [List.length_append] at hr
  have hnb:old.length+new.length≤1099511627776:=Nat.le_trans (Nat.le_mul_of_pos_right _ (by omega)) hby
  have hby':(old.length+new.length)*i.bytes≤140737488355328:=Nat.le_trans (Nat.le_trans (Nat.mul_le_mul_left _ (by omega)) hby) (by omega)
  obtain ⟨y,w',hrun,hown',hgrow,hyb⟩:∃ y w',(Builtin.append_ #[t,t] ty #[vs,.slice A new.length c]).run P w=.ok y w'∧w'.ownsRow 0 e i.size y (old.length+new.length) (xs++news)∧w.grownBy w' vs.ownBlock ∧
    (y.ownBlock=vs.ownBlock∨y.ownBlock=some w.heap.size):=by
   cases A with
   | none =>
     have hn0:=hA0 rfl
     subst hn0
     have:news=[]:=List.eq_nil_of_length_eq_zero (by simpa using hnl)
     subst this
     exact ⟨vs,w,zuP hu hi hown,by simpa using hown,⟨rfl,rfl,rfl,Nat.le_refl _,fun _ _ _=>rfl⟩,.inl rfl⟩
   | some ad =>
     obtain ⟨y,w',h1,h2,h3,_,h5⟩:=run_append_own_at (P:=P) w 0 t ty e i zv i.size i.bytes hu hi hzz rfl rfl hzs hpos vs old.length xs hown ad new.length c news hnl (hAc ad rfl) hn1 (by unfold maxLen; omega) hby' (Nat.zero_le _)
     exact ⟨y,w',h1,h2,h3,h5⟩
  have hSne:∀ g,S g→some g≠vs.ownBlock:=fun g hg e=>(hob g e.symm).1 hg
  have hSw:∀ g,S g→w'.heap[g]?=w.heap[g]?:=fun g hg=>hgrow.block g (hS g hg) (hSne g hg)
  have hyS:∀ g,y.ownBlock=some g→¬ S g:=by
   intro g hg hs'
   rcases hyb with h | h
   · rw [h] at hg; exact (hob g hg).1 hs'
   · rw [h] at hg; injection hg with hg; have:=hS g hs'; omega
  have hxsl:xs.length=old.length*i.size:=hown.1
  obtain ⟨kd,hkd1,hkd2,hkd3⟩:∃ kd:Option (Nat×Nat),(∀ (S':Nat→Prop) (κ':Kap) (D':Nat→Prop) (w'':World),D' d→κ' d=kd→VRel S' κ' D' w'' (.row d i.size 0 (old.length+new.length)) y) ∧
    (∀ g c,kd=some (g,c)→y.ownBlock=some g) ∧
    (match kd with
     | none=>old++new=[]
     | some (g,c)=>∃ cells:Array Value,w'.heap[g]?=some (.cells cells e (0,0))∧cells.size=c*i.size∧(old++new).length≤c∧c≤maxLen∧cells.toList.take ((old.length+new.length)*i.size)=xs++news):=by
   rcases hown'.2 with ⟨rfl,h0⟩ | ⟨g,cap,cur,rfl,_,hh,hn,hcm,hcs,htake⟩
   · refine ⟨none,fun S' κ' D' w'' hD hk=>?_,by simp,?_⟩
     · rw [h0]; exact .row0 d i.size hD hk
     · have:(old++new).length=0:=by simpa using h0
       exact List.eq_nil_of_length_eq_zero this
   · refine ⟨some (g,cap),fun S' κ' D' w'' hD hk=>.row d i.size 0 _ g cap 0 cap hD hk hn (.inl (by simp)) (fun _=>rfl),?_,cur,hh,hcs,by simpa using hn,hcm,htake⟩
     intro g' c' he
     injection he with he
     injection he with e1 e2
     simp [Value.ownBlock,e1]
  refine ⟨y,w',fun b=>if b=d then kd else κ b,hrun,?_⟩
  subst hr
  exact {
   os:=hgrow.os
   tape:=hgrow.tape
   output:=hgrow.output
   size:=hgrow.size
   blk:=fun g hg hb=>hgrow.block g hg (fun e=>by
    obtain ⟨_,b,c',h1,h2,h3⟩:=hob g e.symm
    exact hb b c' (.inr h1) h2 h3)
   sup:=fun _ h=>h
   snew:=fun _ h=>.inl h
   slt:=fun g hg=>Nat.lt_of_lt_of_le (hS g hg) hgrow.size
   sfrz:=fun b hb=>by cases hb
   kold:=fun b hb=>if_neg (fun e=>hd (by subst e; exact hb))
   kout:=fun b hb=>if_neg (fun e=>hb (by simp [ids,e]))
   knew:=fun b _ hb g c' hk=>by
    simp [ids] at hb
    subst hb
    simp at hk
    have hy:=hkd2 g c' hk
    rcases hyb with h | h
    · rw [h] at hy
      obtain ⟨_,b0,c0,h1,h2,h3⟩:=hob g hy
      exact .inr ⟨b0,c0,h1,h2,h3⟩
    · rw [h] at hy
      injection hy with hy
      exact .inl (by omega)
   one:=fun b b' _ _ h1 h2=>by
    simp [ids] at h1 h2
    rw [h1,h2]
   ents:=fun b ent hb=>by
    simp at hb
    obtain ⟨rfl,rfl⟩:=hb
    refine EntAt.of (.inr (by show 0 < i.size; omega)) ⟨fun cs hcs=>?_,?_⟩
    · rcases List.mem_append.1 hcs with h' | h'
      · exact hoz cs h'
      · exact hnz cs h'
    · simp only [if_true]
      cases kd with
      | none=>exact ⟨hkd3,trivial⟩
      | some gc =>
        obtain ⟨g,cap⟩:=gc
        obtain ⟨cells,q1,q2,q3,q4,q5⟩:=hkd3
        refine ⟨cells,q1,q2,q3,q4,hyS g (hkd2 g cap rfl),fun i' j cs a hi' hj=>?_⟩
        have hil:i' < old.length+new.length:=by have:=(List.getElem?_eq_some_iff.1 hi').1; simpa using this
        have hcz:cs.length=i.size:=by
         rcases List.mem_append.1 (List.mem_of_getElem? hi') with h' | h'
         · exact hoz cs h'
         · exact hnz cs h'
        have hjl:j < i.size:=by rw [← hcz]; exact (List.getElem?_eq_some_iff.1 hj).1
        have hq:cells[i'*i.size+j]?=(xs++news)[i'*i.size+j]?:=by
         rw [← q5,List.getElem?_take,if_pos (idx_lt hil hjl)]; simp
        rw [hq,List.getElem?_append]
        rw [List.getElem?_append] at hi'
        by_cases hlt:i' < old.length
        · rw [if_pos hlt] at hi'
          rw [if_pos (by rw [hxsl]; exact idx_lt hlt hjl)]
          obtain ⟨u,u1,u2,u3⟩:=hocell i' j cs a hi' hj
          exact ⟨u,u1,u2,(fun hb=>by cases hb),fun _=>u3.mono (fun _ h=>h) hSw⟩
        · rw [if_neg hlt] at hi'
          have hge:old.length*i.size≤i'*i.size:=Nat.mul_le_mul_right _ (by omega)
          rw [if_neg (by rw [hxsl]; omega)]
          obtain ⟨u,u1,u2⟩:=hncell (i' - old.length) j cs a hi' hj
          have he:i'*i.size+j - xs.length=(i' - old.length)*i.size+j:=by rw [hxsl,Nat.sub_mul]; omega
          rw [he]
          exact ⟨u,u1,hn1 u (List.mem_of_getElem? u1),(fun hb=>by cases hb),fun _=>u2.mono (fun _ h=>h) hSw⟩
   val:=hkd1 _ _ _ _ (.inr (by simp [ids])) (by simp) }
 split at h
 · rename_i hsv
   split at h
   case isFalse=>cases h
   rename_i hby
   injection h with h
   have hv:=hs.v_inv
   subst hv
   exact main [] [] none none ⟨by simp,.inl ⟨rfl,rfl⟩⟩ (by simp) (by simp) (by simpa using hby) (fun g hg=>by simp [Value.ownBlock] at hg) (by simp) (by rw [← h]; simp)
 · rename_i b z off n
   split at h
   case h_2=>cases h
   rename_i ent hl
   split at h
   case isFalse=>cases h
   rename_i hc
   obtain ⟨hb1,hbd,hz1,hz2,he,hbx,ho0,hnl',hby⟩:=hc
   injection h with h
   subst hz2
   subst he
   obtain ⟨hzz',hent⟩:=(hL b ent hl).1 (.inr (by omega))
   rw [hz1] at hzz'
   cases hs with
   | c h=>cases h
   | row0 _ _ hdb hk =>
     rw [hk] at hent
     have h0:=hent.1
     clear hnl'
     exact main ent.es [] (some b) none ⟨by rw [h0]; simp,.inl ⟨rfl,by rw [h0]; rfl⟩⟩ hzz' (by rw [h0]; simp) hby (fun g hg=>by simp [Value.ownBlock] at hg) (by simpa using hbd) h.symm
   | row _ _ _ _ g cp off' cap hdb hk hnc ho hcc =>
     subst ho0
     subst hnl'
     rw [hk] at hent
     obtain ⟨cells,hcells,hsz,hle2,hm,hnS,hcell⟩:=hent
     have hcap:cap=cp:=hcc rfl
     subst hcap
     have hoff:off'=0:=by
      rcases ho with h | ⟨_,h⟩
      · simpa using h
      · exact absurd rfl h
     subst hoff
     rw [hz1] at hsz
     have hbig:ent.es.length*i.size≤cells.size:=by rw [hsz]; exact Nat.mul_le_mul_right _ hle2
     refine main ent.es (cells.toList.take (ent.es.length*i.size)) (some b) (some (g,cap)) ⟨by simp; omega,.inr ⟨g,cap,cells,rfl,Nat.zero_le _,hcells,hle2,hm,hsz,rfl⟩⟩ hzz' ?_ hby ?_ (by simpa using hbd) h.symm
     · intro i' j cs a hi' hj
       obtain ⟨u,u1,u2,_,u4⟩:=hcell i' j cs a hi' hj
       rw [hz1] at u1
       have hjl:j < i.size:=by rw [← hzz' cs (List.mem_of_getElem? hi')]; exact (List.getElem?_eq_some_iff.1 hj).1
       refine ⟨u,?_,u2,u4 hbx⟩
       rw [List.getElem?_take,if_pos (idx_lt (List.getElem?_eq_some_iff.1 hi').1 hjl)]
       simpa using u1
     · intro g' hg'
       simp [Value.ownBlock] at hg'
       subst hg'
       exact ⟨hnS,b,cap,rfl,hdb,hk⟩
 · cases h
theorem zzd {L:Nat→Option Ent} {t ty:TypeId} {ts:Array TypeId} {s x:AV} {r:Res} {vs vx:Value} (hS:∀ g,S g→g < w.heap.size) (hts:ts[0]?=some t)
  (h:aCopy P L t s x=some r) (hs:VRel S κ D w s vs) (hx:VRel S κ D w x vx) (hL:∀ b ent,L b=some ent→EntAt S κ D w (κ b) ent) :
  ∃ y w',(Builtin.copy_ ts ty #[vs,vx]).run P w=.ok y w'∧EffAt S κ D w S κ r y w':=by
 unfold aCopy at h
 split at h
 case h_2=>cases h
 rename_i e hu
 split at h
 case h_2=>cases h
 rename_i sz b z off n hsz
 split at h
 case h_2=>cases h
 rename_i ent new hl hsrc
 split at h
 case isFalse=>cases h
 rename_i hc
 obtain ⟨hpos,rfl,hez,hbx,hle⟩:=hc
 injection h with h
 subst h
 obtain ⟨A,c,news,rfl,hnl,hn1,hA0,hAc,hnz,hncell⟩:=zuY hpos hsrc hx hL
 have hce:ent.cell:=.inr (by omega)
 obtain ⟨hzz,hent⟩:=(hL b ent hl).1 hce
 have hk:(min new.length n)*z≤news.length:=by rw [hnl]; exact Nat.mul_le_mul_right _ (Nat.min_le_left _ _)
 have hfirst:(Builtin.firstCells z (min new.length n) (.slice A new.length c)).run P w=.ok (news.take (min new.length n*z)).toArray w:=by
  cases A with
  | none =>
    have:=hA0 rfl
    subst this
    have:news=[]:=List.eq_nil_of_length_eq_zero (by simpa using hnl)
    subst this
    simp [Builtin.firstCells]
  | some ad =>
    have:=run_loadCells_list (P:=P) w ad (news.take (min new.length n*z)) (fun j u hu=>by
     rw [List.getElem?_take] at hu
     split at hu
     · exact hAc ad rfl j u hu
     · cases hu)
    rw [List.length_take,Nat.min_eq_left hk] at this
    simpa [Builtin.firstCells] using this
 have hpre:∀ base:Option Addr,∀ cap:Nat,(Builtin.copy_ ts ty #[.slice base n cap,.slice A new.length c]).run P w =
   ((match base with | some a=>storeCells a (news.take (min new.length n*z)) | none=>pure ():Sem Unit).run P w).andThen fun _ w'=>.ok (goInt (min new.length n:Nat)) w':=by
  intro base cap
  have hm:Nat.min new.length n=min new.length n:=rfl
  cases base <;> simp [Builtin.copy_,hts,run_underlying hu,Builtin.lenOf,zbs hsz,hm,hfirst]
 cases hs with
 | c h=>cases h
 | row0 _ _ hd hkk =>
   rw [hkk] at hent
   refine ⟨goInt (min new.length 0:Nat),w,by rw [hpre]; simp,?_⟩
   have h0:=hent.1
   exact {
    os:=rfl
    tape:=rfl
    output:=rfl
    size:=Nat.le_refl _
    blk:=fun _ _ _=>rfl
    sup:=fun _ h=>h
    snew:=fun _ h=>.inl h
    slt:=hS
    sfrz:=fun b' hb=>by cases hb
    kold:=fun _ _=>rfl
    kout:=fun _ _=>rfl
    knew:=fun b' h hb=>by
     simp [ids] at hb
     subst hb
     exact absurd hd h
    one:=fun b' b'' h _ hb=>by
     simp [ids] at hb
     subst hb
     exact absurd hd h
    ents:=fun b' en hb=>by
     simp at hb
     obtain ⟨rfl,rfl⟩:=hb
     refine EntAt.of hce ⟨by simp [h0],?_⟩
     rw [hkk]
     exact ⟨by simp [h0],hbx⟩
    val:=.c (.v _) }
 | row _ _ _ _ g cp off' cap hd hkk hnc ho hcc =>
   rw [hkk] at hent
   obtain ⟨cells,hcells,hcsz,hle2,hm,hnS,hcell⟩:=hent
   rw [hez] at hcsz
   have hl1:(news.take (min new.length n*z)).length=min new.length n*z:=by rw [List.length_take,Nat.min_eq_left hk]
   have hin:off*z+min new.length n*z≤cells.size:=by
    rw [hcsz,← Nat.add_mul]; exact Nat.mul_le_mul_right _ (by omega)
   have hrun:(storeCells ⟨g,off',none⟩ (news.take (min new.length n*z))).run P w=.ok () (w.setRow g (cells.toList.take (off*z)++news.take (min new.length n*z)++cells.toList.drop (off*z+min new.length n*z)).toArray):=by
    rcases ho with h | ⟨h,_⟩
    · have:=run_storeCells_at P g (off*z) ent.e (news.take (min new.length n*z)) 0 cells w hcells (by rw [hl1]; simpa using hin) (fun u hu=>hn1 u (List.mem_of_mem_take hu))
      simp only [Nat.add_zero,hl1] at this
      rw [h]; exact this
    · subst h
      simp [storeCells,setRow_self w g cells ent.e (0,0) hcells]
   refine ⟨goInt (min new.length n:Nat),_,by rw [hpre]; simp only [hrun,Result.andThen_ok]; rfl,EffAt.update (b:=b) (g:=g) (c:=cp)
    (ent:={ ent with es:=ent.es.take off++(new.take n)++ent.es.drop (off+min new.length n) }) hS hd hkk rfl rfl rfl hce hcells hnS ?_ ?_ ?_ hm ?_ (.c (.v _))⟩
   · intro cs hcs
     simp only [hez]
     rcases List.mem_append.1 hcs with h | h
     · rcases List.mem_append.1 h with h | h
       · rw [← hez]; exact hzz cs (List.mem_of_mem_take h)
       · exact hnz cs (List.mem_of_mem_take h)
     · rw [← hez]; exact hzz cs (List.mem_of_mem_drop h)
   · simp only [List.size_toArray,List.length_append,hl1,List.length_take,List.length_drop,Array.length_toList,hez]
     omega
   · simp; omega
   · intro i j cs a hi hj
     simp only at hi ⊢
     rw [hez]
     have hcz:cs.length=z:=by
      rcases List.mem_append.1 (List.mem_of_getElem? hi) with h | h
      · rcases List.mem_append.1 h with h | h
        · rw [← hez]; exact hzz cs (List.mem_of_mem_take h)
        · exact hnz cs (List.mem_of_mem_take h)
      · rw [← hez]; exact hzz cs (List.mem_of_mem_drop h)
     have hjl:j < z:=by rw [← hcz]; exact (List.getElem?_eq_some_iff.1 hj).1
     have hsg:=zro (A:=cells) (o:=off*z) (k:=i*z+j) (vs:=news.take (min new.length n*z)) (by rw [hl1]; exact hin)
     rw [hl1] at hsg
     rw [hsg]
     have ha1:(ent.es.take off).length=off:=by simp; omega
     have ha2:(new.take n).length=min new.length n:=by simp [Nat.min_comm]
     rw [List.append_assoc,List.getElem?_append,ha1] at hi
     by_cases h1:i < off
     · rw [if_pos h1,List.getElem?_take,if_pos h1] at hi
       have:i*z+j < off*z:=idx_lt h1 hjl
       rw [if_pos this]
       have:=hcell i j cs a hi hj
       rw [hez] at this
       exact this
     · have hge:off*z≤i*z:=Nat.mul_le_mul_right _ (by omega)
       rw [if_neg h1,List.getElem?_append,ha2] at hi
       rw [if_neg (by omega)]
       by_cases h2:i - off < min new.length n
       · rw [if_pos h2,List.getElem?_take,if_pos (by omega)] at hi
         have hlt:(i - off)*z+j < min new.length n*z:=idx_lt h2 hjl
         have he:i*z+j - off*z=(i - off)*z+j:=by rw [Nat.sub_mul]; omega
         rw [if_pos (by omega),he,List.getElem?_take,if_pos hlt]
         obtain ⟨u,u1,u2⟩:=hncell (i - off) j cs a hi hj
         exact ⟨u,u1,hn1 u (List.mem_of_getElem? u1),(fun hb=>.c u2),fun _=>u2⟩
       · rw [if_neg h2,List.getElem?_drop] at hi
         have hge2:(off+min new.length n)*z≤i*z:=Nat.mul_le_mul_right _ (by omega)
         rw [Nat.add_mul] at hge2
         rw [if_neg (by omega)]
         have hii:off+min new.length n+(i - off - min new.length n)=i:=by omega
         rw [hii] at hi
         have:=hcell i j cs a hi hj
         rw [hez] at this
         exact this
theorem zxm {L:Nat→Option Ent} {t ty:TypeId} {ts:Array TypeId} {s:AV} {r:Res} {vs:Value} (hS:∀ g,S g→g < w.heap.size) (hts:ts[0]?=some t)
  (h:aClear P L t s=some r) (hs:VRel S κ D w s vs) (hL:∀ b ent,L b=some ent→EntAt S κ D w (κ b) ent) :
  ∃ y w',(Builtin.clear_ ts ty #[vs]).run P w=.ok y w'∧EffAt S κ D w S κ r y w':=by
 unfold aClear at h
 split at h
 case h_2=>cases h
 rename_i e hu
 split at h
 case h_2=>cases h
 rename_i sz zero b z off n hsz hzero
 split at h
 case h_2=>cases h
 rename_i ent hl
 split at h
 case isFalse=>cases h
 rename_i hc
 obtain ⟨hpos,rfl,hez,hbx,hzl,hz1,hle⟩:=hc
 injection h with h
 subst h
 obtain ⟨i,zv,hi,hzz0,rfl⟩:=zf2 hzero
 have hzs:zv.cells.size=z:=by simpa using hzl
 have hzr:=zhT (S:=S) (w:=w) hz1
 have hce:ent.cell:=.inr (by omega)
 obtain ⟨hzz,hent⟩:=(hL b ent hl).1 hce
 have hnl:(Builtin.zeroCells zv.cells n).toList.length=n*z:=by simp [Builtin.zeroCells,hzs]
 have hnget:∀ k,k < n*z→∃ (u:Value),(Builtin.zeroCells zv.cells n).toList[k]?=some u∧zv.cells[k % z]?=some u:=by
  intro k hk
  have hm:k % z < zv.cells.size:=by rw [hzs]; exact Nat.mod_lt _ hpos
  refine ⟨zv.cells[k % z],?_,Array.getElem?_eq_getElem hm⟩
  simp [Builtin.zeroCells,hzs,hk]
  rw [getElem!_pos zv.cells (k % z) hm]
 have hn1:∀ u∈(Builtin.zeroCells zv.cells n).toList,u.oneCell'=true:=by
  intro u hu'
  obtain ⟨k,hk⟩:=List.getElem?_of_mem hu'
  have hlt:k < n*z:=by rw [← hnl]; exact (List.getElem?_eq_some_iff.1 hk).1
  obtain ⟨u',h1,h2⟩:=hnget k hlt
  rw [hk] at h1
  injection h1 with h1
  subst h1
  exact hzr.2.1 _ (Array.mem_of_getElem? h2)
 have hv:VRel S κ D w (.tup []) (.tuple #[]):=.c (.tup [] #[] rfl (fun j c x hj=>by simp at hj))
 cases hs with
 | c h=>cases h
 | row0 _ _ hd hkk =>
   rw [hkk] at hent
   refine ⟨.tuple #[],w,by simp [Builtin.clear_,hts,run_underlying hu],?_⟩
   have h0:=hent.1
   exact {
    os:=rfl
    tape:=rfl
    output:=rfl
    size:=Nat.le_refl _
    blk:=fun _ _ _=>rfl
    sup:=fun _ h=>h
    snew:=fun _ h=>.inl h
    slt:=hS
    sfrz:=fun b' hb=>by cases hb
    kold:=fun _ _=>rfl
    kout:=fun _ _=>rfl
    knew:=fun b' h hb=>by
     simp [ids] at hb
     subst hb
     exact absurd hd h
    one:=fun b' b'' h _ hb=>by
     simp [ids] at hb
     subst hb
     exact absurd hd h
    ents:=fun b' en hb=>by
     simp at hb
     obtain ⟨rfl,rfl⟩:=hb
     refine EntAt.of hce ⟨by simp [h0],?_⟩
     rw [hkk]
     exact ⟨by simp [h0],hbx⟩
    val:=.c (.tup [] #[] rfl (fun j c x hj=>by simp at hj)) }
 | row _ _ _ _ g cp off' cap hd hkk hnc ho hcc =>
   rw [hkk] at hent
   obtain ⟨cells,hcells,hcsz,hle2,hm,hnS,hcell⟩:=hent
   rw [hez] at hcsz
   have hin:off*z+n*z≤cells.size:=by
    rw [hcsz,← Nat.add_mul]; exact Nat.mul_le_mul_right _ (by omega)
   have hrun:(Builtin.clear_ ts ty #[.slice (some ⟨g,off',none⟩) n cap]).run P w=.ok (.tuple #[]) (w.setRow g (cells.toList.take (off*z)++(Builtin.zeroCells zv.cells n).toList++cells.toList.drop (off*z+n*z)).toArray):=by
    cases n with
    | zero =>
      have e:(Builtin.zeroCells zv.cells 0).toList=[]:=by simp [Builtin.zeroCells]
      rw [e]
      simp [Builtin.clear_,hts,run_underlying hu,setRow_self w g cells ent.e (0,0) hcells]
    | succ n =>
      rcases ho with h | ⟨h,_⟩
      · have:=run_storeCells_at P g (off*z) ent.e (Builtin.zeroCells zv.cells (n+1)).toList 0 cells w hcells (by rw [hnl]; simpa using hin) hn1
        simp only [Nat.add_zero,hnl] at this
        rw [h]
        simp [Builtin.clear_,hts,run_underlying hu,zfC hi hzz0]
        rw [this,List.append_assoc]
        rfl
      · cases h
   refine ⟨.tuple #[],_,hrun,EffAt.update (b:=b) (g:=g) (c:=cp)
    (ent:={ ent with es:=ent.es.take off++List.replicate n (nrmL P (zhA P 8 e) (zv.cells.toList.map .v))++ent.es.drop (off+n) }) hS hd hkk rfl rfl rfl hce hcells hnS ?_ ?_ ?_ hm ?_ hv⟩
   · intro cs hcs
     simp only [hez]
     rcases List.mem_append.1 hcs with h | h
     · rcases List.mem_append.1 h with h | h
       · rw [← hez]; exact hzz cs (List.mem_of_mem_take h)
       · rw [List.eq_of_mem_replicate h]; simpa [zit] using hzs
     · rw [← hez]; exact hzz cs (List.mem_of_mem_drop h)
   · simp only [List.size_toArray,List.length_append,hnl,List.length_take,List.length_drop,Array.length_toList,hez]
     omega
   · simp; omega
   · intro i' j cs a hi' hj
     simp only at hi' ⊢
     rw [hez]
     have hcz:cs.length=z:=by
      rcases List.mem_append.1 (List.mem_of_getElem? hi') with h | h
      · rcases List.mem_append.1 h with h | h
        · rw [← hez]; exact hzz cs (List.mem_of_mem_take h)
        · rw [List.eq_of_mem_replicate h]; simpa [zit] using hzs
      · rw [← hez]; exact hzz cs (List.mem_of_mem_drop h)
     have hjl:j < z:=by rw [← hcz]; exact (List.getElem?_eq_some_iff.1 hj).1
     have hsg:=zro (A:=cells) (o:=off*z) (k:=i'*z+j) (vs:=(Builtin.zeroCells zv.cells n).toList) (by rw [hnl]; exact hin)
     rw [hnl] at hsg
     rw [hsg]
     have ha1:(ent.es.take off).length=off:=by simp; omega
     rw [List.append_assoc,List.getElem?_append,ha1] at hi'
     by_cases h1:i' < off
     · rw [if_pos h1,List.getElem?_take,if_pos h1] at hi'
       have:i'*z+j < off*z:=idx_lt h1 hjl
       rw [if_pos this]
       have:=hcell i' j cs a hi' hj
       rw [hez] at this
       exact this
     · have hge:off*z≤i'*z:=Nat.mul_le_mul_right _ (by omega)
       rw [if_neg h1,List.getElem?_append,List.length_replicate] at hi'
       rw [if_neg (by omega)]
       by_cases h2:i' - off < n
       · rw [if_pos h2,List.getElem?_replicate,if_pos h2] at hi'
         injection hi' with hi'
         subst hi'
         have hlt:(i' - off)*z+j < n*z:=idx_lt h2 hjl
         have he:i'*z+j - off*z=(i' - off)*z+j:=by rw [Nat.sub_mul]; omega
         obtain ⟨u,u1,u2⟩:=hnget _ hlt
         have hmod:((i' - off)*z+j) % z=j:=by rw [Nat.mul_comm,Nat.mul_add_mod,Nat.mod_eq_of_lt hjl]
         rw [hmod] at u2
         rw [if_pos (by omega),he]
         obtain ⟨a0,hj0,hac⟩:=znE P _ _ j a hj
         have hcr:=hzr.2.2 j a0 u hj0 u2
         have hcr':CRel S w a u:=by
          rcases hac with rfl | ⟨t',rfl⟩
          · exact hcr
          · exact zn0 hcr
         exact ⟨u,u1,hn1 u (List.mem_of_getElem? u1),(fun hb=>.c hcr'),fun _=>hcr'⟩
       · rw [if_neg h2,List.getElem?_drop] at hi'
         have hge2:(off+n)*z≤i'*z:=Nat.mul_le_mul_right _ (by omega)
         rw [Nat.add_mul] at hge2
         rw [if_neg (by omega)]
         have hii:off+n+(i' - off - n)=i':=by omega
         rw [hii] at hi'
         have:=hcell i' j cs a hi' hj
         rw [hez] at this
         exact this
end
end Go.Ab
