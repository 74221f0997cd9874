/- Operations that make or write memory. -/
import Derived.Test.YtbhkcgaanaelfaaGreatAbOps
namespace Go.Ab
open Go.RowKit
def ids (l:List (Nat×Ent)):List Nat:=l.map (·.1)
def D1 (D:Nat→Prop) (r:Res):Nat→Prop:=fun b=>(D b∧r.kill≠some b∧b ∉ r.frz)∨b∈ids r.set
structure EffAt (S:Nat→Prop) (κ:Kap) (D:Nat→Prop) (w:World) (S':Nat→Prop) (κ':Kap) (r:Res) (y:Value) (w':World):Prop where
 os:w'.os=w.os
 tape:w'.tape=w.tape
 output:w'.output=w.output
 size:w.heap.size≤w'.heap.size
 blk:∀ g,g < w.heap.size→(∀ b c,(b∈ids r.set∨r.kill=some b)→D b→κ b≠some (g,c))→w'.heap[g]?=w.heap[g]?
 sup:∀ g,S g→S' g
 snew:∀ g,S' g→S g∨w.heap.size≤g∨∃ b c,(b∈r.frz∨r.kill=some b)∧D b∧κ b=some (g,c)
 slt:∀ g,S' g→g < w'.heap.size
 sfrz:∀ b∈r.frz,∀ g c,κ b=some (g,c)→S' g
 kold:∀ b,D b→κ' b=κ b
 kout:∀ b,b ∉ ids r.set→κ' b=κ b
 knew:∀ b,¬ D b→b∈ids r.set→∀ g c,κ' b=some (g,c)→w.heap.size≤g∨∃ b0 c0,r.kill=some b0∧D b0∧κ b0=some (g,c0)
 one:∀ b b',¬ D b→¬ D b'→b∈ids r.set→b'∈ids r.set→b=b'
 ents:∀ b ent,(b,ent)∈r.set→EntAt S' κ' (D1 D r) w' (κ' b) ent
 val:VRel S' κ' (D1 D r) w' r.val y
section
variable {P:Program} {S:Nat→Prop} {κ:Kap} {D:Nat→Prop} {w:World}
theorem EffAt.still {r:Res} {y:Value} (hS:∀ g,S g→g < w.heap.size) (h:VRel S κ D w r.val y) (h1:r.set=[]) (h2:r.kill=none) (h3:r.frz=[]):EffAt S κ D w S κ r y w where
 os:=rfl
 tape:=rfl
 output:=rfl
 size:=Nat.le_refl _
 blk:=fun _ _ _=>rfl
 sup:=fun _ h=>h
 snew:=fun _ h=>.inl h
 slt:=hS
 sfrz:=fun b hb=>by rw [h3] at hb; cases hb
 kold:=fun _ _=>rfl
 kout:=fun _ _=>rfl
 knew:=fun b _ hb=>by simp [ids,h1] at hb
 one:=fun b b' _ _ hb=>by simp [ids,h1] at hb
 ents:=fun b ent hb=>by simp [h1] at hb
 val:=h.mono (fun _ h=>h) (fun _ _=>rfl) (fun b hb=>.inl ⟨hb,by simp [h2],by simp [h3]⟩) (fun _ _=>rfl)
def zhM (R:AV→Value→Prop) (cs:List AV) (A:Array Value):Prop:=
 A.size=cs.length∧(∀ x∈A,x.oneCell'=true)∧∀ (j:Nat) (c:AV) (x:Value),cs[j]?=some c→A[j]?=some x→R c x
theorem EffAt.newBlock {d:Nat} {ent:Ent} {cells:Array Value} {c:Nat} {r:Res} {y:Value} (hS:∀ g,S g→g < w.heap.size) (hd:¬ D d) (hset:r.set=[(d,ent)]) (hk:r.kill=none) (hf:r.frz=[]) (hcl:ent.cell)
  (hz:∀ cs∈ent.es,cs.length=ent.z) (hsz:cells.size=c*ent.z) (hc:ent.es.length≤c) (hm:c≤maxLen)
  (hcell:∀ (i j:Nat) (cs:List AV) (a:AV),ent.es[i]?=some cs→cs[j]?=some a→∃ u,cells[i*ent.z+j]?=some u∧u.oneCell'=true∧(ent.box=true→VRel S κ D w a u)∧(ent.box=false→CRel S w a u))
  (hv:∀ (S':Nat→Prop) (κ':Kap) (D':Nat→Prop) (w':World),D' d→κ' d=some (w.heap.size,c)→VRel S' κ' D' w' r.val y) :
  EffAt S κ D w S (fun b=>if b=d then some (w.heap.size,c) else κ b) r y (w.alloc (.cells cells ent.e)):=by
 have hold:∀ g,g < w.heap.size→(w.alloc (.cells cells ent.e)).heap[g]?=w.heap[g]?:=fun g hg=>Below.heap_alloc w _ g hg
 have hDD:∀ b,D b→D1 D r b:=fun b hb=>.inl ⟨hb,by simp [hk],by simp [hf]⟩
 have hkk:∀ b,D b→(if b=d then some (w.heap.size,c) else κ b)=κ b:=fun b hb=>if_neg (fun e=>hd (by subst e; exact hb))
 exact {
  os:=rfl
  tape:=rfl
  output:=rfl
  size:=by simp
  blk:=fun g hg _=>hold g hg
  sup:=fun _ h=>h
  snew:=fun _ h=>.inl h
  slt:=fun g hg=>by have:=hS g hg; simp; omega
  sfrz:=fun b hb=>by rw [hf] at hb; cases hb
  kold:=hkk
  kout:=fun b hb=>if_neg (fun e=>hb (by simp [ids,hset,e]))
  knew:=fun b _ hb g c' h=>by
   simp [ids,hset] at hb
   subst hb
   simp at h
   omega
  one:=fun b b' _ _ h1 h2=>by
   simp [ids,hset] at h1 h2
   rw [h1,h2]
  ents:=fun b e hb=>by
   simp [hset] at hb
   obtain ⟨rfl,rfl⟩:=hb
   refine EntAt.of hcl ⟨hz,?_⟩
   simp only [if_true]
   refine ⟨cells,heap_alloc_new w _,hsz,hc,hm,fun h=>by have:=hS _ h; omega,fun i j cs a hi hj=>?_⟩
   obtain ⟨u,h1,h2,h3,h4⟩:=hcell i j cs a hi hj
   exact ⟨u,h1,h2,fun hb=>(h3 hb).mono (fun _ h=>h) (fun g hg=>hold g (hS g hg)) hDD hkk,fun hb=>(h4 hb).mono (fun _ h=>h) (fun g hg=>hold g (hS g hg))⟩
  val:=hv _ _ _ _ (.inr (by simp [ids,hset])) (by simp) }
theorem zf2 {t:TypeId} {zero:List AV} (h:zeroB P t=some zero):∃ (i:TypeInfo) (z:Value),P.info? t=some i∧i.zero=some z∧zero=z.cells.toList.map .v:=by
 unfold zeroB at h
 cases hi:P.info? t with
 | none=>simp [hi] at h
 | some i =>
   cases hz:i.zero with
   | none=>simp [hi,hz] at h
   | some z=>simp [hi,hz] at h; exact ⟨i,z,rfl,hz,h.symm⟩
theorem zfC {t:TypeId} {i:TypeInfo} {z:Value} (hi:P.info? t=some i) (hz:i.zero=some z):(zeroValue t).run P w=.ok z w:=by
 simp [zeroValue,typeInfo,hi,hz]
theorem zhT {z:Value} (h:allL AV.one (z.cells.toList.map .v)=true):zhM (CRel S w) (z.cells.toList.map .v) z.cells:=by
 refine ⟨by simp,fun x hx=>?_,fun j c x hc hx=>?_⟩
 · exact zeC h (.v x) (by simpa using hx)
 · simp at hc
   obtain ⟨q,hq,rfl⟩:=hc
   rw [hq] at hx
   injection hx with hx
   subst hx
   exact .v _
theorem ztj {cs new:List AV} {o k:Nat} (h:o+new.length≤cs.length) :
  (splice cs o new)[k]?=if k < o then cs[k]? else if k < o+new.length then new[k - o]? else cs[k]?:=by
 unfold splice
 rw [List.append_assoc,List.getElem?_append]
 simp only [List.length_take,Nat.min_eq_left (show o≤cs.length by omega)]
 split
 · rename_i h1
   rw [List.getElem?_take,if_pos h1]
 · rw [List.getElem?_append]
   split
   · rw [if_pos (by omega)]
   · rw [if_neg (by omega),List.getElem?_drop]
     congr 1
     omega
theorem zkC {cs new:List AV} {o:Nat} (h:o+new.length≤cs.length):(splice cs o new).length=cs.length:=by
 unfold splice
 simp
 omega
theorem setAllA {off:Nat}:∀ (l:List Value) (s:Nat) (A:Array Value),off+s+l.length≤A.size →
  let B:=(l.zipIdx s).foldl (fun cs (p:Value×Nat)=>cs.setIfInBounds (off+p.2) p.1) A
  B.size=A.size∧∀ k,B[k]?=if off+s≤k∧k < off+s+l.length then l[k - (off+s)]? else A[k]?
 | [],s,A,_=>by simp; omega
 | x :: l,s,A,h=>by
   simp only [List.zipIdx_cons,List.foldl_cons]
   obtain ⟨h1,h2⟩:=setAllA (off:=off) l (s+1) (A.setIfInBounds (off+s) x) (by simp at h ⊢; omega)
   refine ⟨by rw [h1]; simp,fun k=>?_⟩
   rw [h2]
   simp at h
   by_cases hk:k=off+s
   · subst hk
     rw [if_neg (by omega),if_pos (by simp)]
     simp [Array.getElem?_setIfInBounds]
     omega
   · by_cases hin:off+(s+1)≤k∧k < off+(s+1)+l.length
     · rw [if_pos hin,if_pos (by simp; omega)]
       have:k - (off+s)=(k - (off+(s+1)))+1:=by omega
       rw [this,List.getElem?_cons_succ]
     · rw [if_neg hin,if_neg (by simp; omega),Array.getElem?_setIfInBounds_ne (by omega)]
theorem zmP {place:Nat→Option (Nat×Nat)} {R:AV→Value→Prop}:∀ (ps:List (Nat×AV)) (vs:List (Nat×Value)) (cs cs':List AV) (A:Array Value),
  fillL place ps cs=some cs'→zhM R cs A→vs.length=ps.length →
  (∀ (k:Nat) (p:Nat×AV) (q:Nat×Value),ps[k]?=some p→vs[k]?=some q→p.1=q.1∧(allL AV.one p.2.cells=true→zhM R p.2.cells q.2.cells)) →
  ∃ A',Instr.fill place A vs=some A'∧zhM R cs' A'
 | [],[],cs,cs',A,h,hA,_,_=>by simp [fillL] at h; subst h; exact ⟨A,rfl,hA⟩
 | [],_ :: _,_,_,_,_,_,hl,_=>by simp at hl
 | _ :: _,[],_,_,_,_,_,hl,_=>by simp at hl
 | (i,a) :: ps,(i',x) :: vs,cs,cs',A,h,hA,hl,hp=>by
   obtain ⟨e,hx⟩:=hp 0 (i,a) (i',x) rfl rfl
   simp at e
   subst e
   simp only [fillL] at h
   split at h
   · rename_i off sz hpl
     split at h
     · rename_i hc
       obtain ⟨h1,h2,h3⟩:=hc
       obtain ⟨hxs,hx1,hxr⟩:=hx h3
       simp only at hxs hx1 hxr
       have hlen:off+x.cells.size≤A.size:=by rw [hA.1,hxs]; omega
       have key:=setAllA (off:=off) x.cells.toList 0 A (by simpa using hlen)
       simp only [Nat.add_zero] at key
       obtain ⟨k1,k2⟩:=key
       have hfill:Instr.fill place A ((i,x) :: vs)=Instr.fill place ((x.cells.toList.zipIdx 0).foldl (fun cs (p:Value×Nat)=>cs.setIfInBounds (off+p.2) p.1) A) vs:=by
        have hcond:(decide (x.cells.size≠sz) || decide (off+x.cells.size > A.size))=false:=by
         simp; omega
        simp only [Instr.fill,hpl]
        rw [if_neg (by simpa using hcond)]
        congr 1
        rw [← Array.foldl_toList]
        simp [Array.toList_zipIdx]
       rw [hfill]
       refine zmP ps vs _ cs' _ h ⟨?_,?_,?_⟩ (by simpa using hl) (fun k p q hk hq=>hp (k+1) p q (by simpa using hk) (by simpa using hq))
       · rw [k1,hA.1,zkC (by omega)]
       · intro y hy
         obtain ⟨k,hk⟩:=Array.mem_iff_getElem?.1 hy
         rw [k2] at hk
         split at hk
         · exact hx1 y (by rw [Array.mem_iff_getElem?]; exact ⟨_,by simpa using hk⟩)
         · exact hA.2.1 y (by rw [Array.mem_iff_getElem?]; exact ⟨_,hk⟩)
       · intro j c y hj hy
         rw [ztj (by omega)] at hj
         rw [k2] at hy
         have hxl:x.cells.toList.length=a.cells.length:=by simpa using hxs
         by_cases h4:j < off
         · rw [if_pos h4] at hj
           rw [if_neg (by omega)] at hy
           exact hA.2.2 j c y hj hy
         · rw [if_neg h4] at hj
           by_cases h5:j < off+a.cells.length
           · rw [if_pos h5] at hj
             rw [if_pos (by omega)] at hy
             exact hxr (j - off) c y hj (by simpa using hy)
           · rw [if_neg h5] at hj
             rw [if_neg (by omega)] at hy
             exact hA.2.2 j c y hj hy
     · cases h
   · cases h
theorem fill_len {place:Nat→Option (Nat×Nat)}:∀ {ps:List (Nat×AV)} {cs cs':List AV},fillL place ps cs=some cs'→cs'.length=cs.length
 | [],cs,cs',h=>by simp [fillL] at h; rw [h]
 | (i,a) :: ps,cs,cs',h=>by
   simp only [fillL] at h
   split at h
   · split at h
     · rename_i hc
       rw [fill_len h,zkC (by omega)]
     · cases h
   · cases h
theorem mapM_run {α β:Type} (f:α→Sem β) (g:α→β):∀ (l:List α) ,(∀ a∈l,∀ w,(f a).run P w=.ok (g a) w)→(l.mapM f).run P w=.ok (l.map g) w
 | [],_=>by simp
 | a :: l,h=>by
   simp only [List.mapM_cons,Sem.run_bind,h a (by simp),Result.andThen_ok,mapM_run f g l (fun b hb=>h b (by simp [hb]))]
   simp
theorem zrg:∀ {l:List Field},allSz P l=true→∀ f∈l,(szB P f.type).isSome=true
 | [],_,f,h=>by cases h
 | b :: l,h,f,hm=>by
   simp only [allSz,Bool.and_eq_true] at h
   cases List.mem_cons.1 hm with
   | inl e=>subst e; exact h.1
   | inr e=>exact zrg h.2 f e
theorem places_run {fs:Array Field} (h:allSz P fs.toList=true) :
  (fs.mapM fun (f:Field)=>(do pure (f.offset,← sizeOf f.type):Sem (Nat×Nat))).run P w=.ok (fs.map fun (f:Field)=>(f.offset,(szB P f.type).getD 0)) w:=by
 have hl:=mapM_run (P:=P) (w:=w) (fun f:Field=>(do pure (f.offset,← sizeOf f.type):Sem (Nat×Nat))) (fun f=>(f.offset,(szB P f.type).getD 0)) fs.toList (fun f hf w'=>by
  have hs:=zrg h f hf
  cases hq:szB P f.type with
  | none=>simp [hq] at hs
  | some n=>simp [zbs hq])
 obtain ⟨l⟩:=fs
 rw [List.mapM_toArray]
 simp only [Sem.run_map,hl,Result.andThen_ok]
 simp
theorem places_eq {fs:Array Field} (h:allSz P fs.toList=true):(fun i=>(fs.map fun (f:Field)=>(f.offset,(szB P f.type).getD 0))[i]?)=places P fs:=by
 funext i
 simp only [places,Array.getElem?_map]
 cases hf:fs[i]? with
 | none=>rfl
 | some f =>
   have hs:=zrg h f (by simpa using Array.mem_of_getElem? hf)
   cases hq:szB P f.type with
   | none=>simp [hq] at hs
   | some n=>simp [hq]
theorem zhM.mono {R R':AV→Value→Prop} {cs:List AV} {A:Array Value} (h:zhM R cs A) (hr:∀ a x,R a x→R' a x):zhM R' cs A:=
 ⟨h.1,h.2.1,fun j c x a b=>hr _ _ (h.2.2 j c x a b)⟩
def ze1 (ρ:Operand→Value) (ps:Array (Nat×Operand)):Array (Nat×Value):=ps.map fun (i,x)=>(i,ρ x)
theorem zqD {E:Operand→AV} {ρ:Operand→Value} {ps:Array (Nat×Operand)} (h:∀ p∈ps,VRel S κ D w (E p.2) (ρ p.2)) :
  ∀ (k:Nat) (p:Nat×AV) (q:Nat×Value),(ps.toList.map fun p=>(p.1,E p.2))[k]?=some p→(ze1 ρ ps).toList[k]?=some q →
    p.1=q.1∧(allL AV.one p.2.cells=true→zhM (VRel S κ D w) p.2.cells q.2.cells):=by
 intro k p q hp hq
 simp [ze1] at hp hq
 obtain ⟨i,x,hx,rfl⟩:=hp
 obtain ⟨i',x',hx',rfl⟩:=hq
 rw [hx] at hx'
 injection hx' with hx'
 injection hx' with e1 e2
 subst e1
 subst e2
 exact ⟨rfl,fun h1=>zog h1 (h (i,x) (Array.mem_of_getElem? hx))⟩
theorem zxV {t:TypeId} {E:Operand→AV} {ρ:Operand→Value} {ps:Array (Nat×Operand)} {r:Res} (h:aBuild P t (ps.toList.map fun p=>(p.1,E p.2))=some r)
  (hp:∀ p∈ps,VRel S κ D w (E p.2) (ρ p.2)) :
  ∃ y,(Instr.build t (ze1 ρ ps)).run P w=.ok y w∧VRel S κ D w r.val y∧r.set=[]∧r.kill=none∧r.frz=[]:=by
 unfold aBuild at h
 split at h
 · rename_i zero fs hz hu
   split at h
   · rename_i hall
     obtain ⟨hall,hz1⟩:=hall
     split at h
     · rename_i cs hf
       injection h with h
       subst h
       obtain ⟨i,z,hi,hzz,rfl⟩:=zf2 hz
       obtain ⟨A',h1,h2⟩:=zmP (R:=VRel S κ D w) _ (ze1 ρ ps).toList _ cs z.cells hf ((zhT hz1).mono fun _ _ h=>.c h) (by simp [ze1]) (zqD hp)
       refine ⟨.agg A',?_,.agg cs A' h2.1 h2.2.1 h2.2.2,rfl,rfl,rfl⟩
       simp only [Instr.build,Sem.run_bind,zfC hi hzz,Result.andThen_ok,run_underlying hu,places_run hall,places_eq hall,h1,Sem.run_pure]
     · cases h
   · cases h
 · rename_i zero n e hz hu
   split at h
   case isFalse=>cases h
   rename_i hz1
   split at h
   · rename_i sz hs
     split at h
     · rename_i cs hf
       injection h with h
       subst h
       obtain ⟨i,z,hi,hzz,rfl⟩:=zf2 hz
       obtain ⟨A',h1,h2⟩:=zmP (R:=VRel S κ D w) _ (ze1 ρ ps).toList _ cs z.cells hf ((zhT hz1).mono fun _ _ h=>.c h) (by simp [ze1]) (zqD hp)
       refine ⟨.agg A',?_,.agg cs A' h2.1 h2.2.1 h2.2.2,rfl,rfl,rfl⟩
       simp only [Instr.build,Sem.run_bind,zfC hi hzz,Result.andThen_ok,run_underlying hu,zbs hs,h1,Sem.run_pure]
     · cases h
   · cases h
 · cases h
theorem zs2 {zero:List AV}:∀ (n k:Nat),k < n*zero.length→(repL zero n)[k]?=zero[k % zero.length]?
 | 0,k,h=>by simp at h
 | n+1,k,h=>by
   simp only [repL]
   rw [List.getElem?_append]
   split
   · rename_i hk
     rw [Nat.mod_eq_of_lt hk]
   · rename_i hk
     rw [zs2 n (k - zero.length) (by rw [Nat.add_mul] at h; omega)]
     congr 1
     rw [Nat.mod_eq_sub_mod (a:=k) (by omega)]
theorem zou {zero:List AV}:∀ n,(repL zero n).length=n*zero.length
 | 0=>by simp [repL]
 | n+1=>by simp [repL,zou n,Nat.add_mul]; omega
theorem zk2 {z:Nat}:∀ (n:Nat) (cs:List AV) (i:Nat),i < n→(chunk z n cs)[i]?=some ((cs.drop (i*z)).take z)
 | 0,_,_,h=>by omega
 | n+1,cs,0,_=>by simp [chunk]
 | n+1,cs,i+1,h=>by
   simp only [chunk,List.getElem?_cons_succ]
   rw [zk2 n (cs.drop z) i (by omega),List.drop_drop]
   congr 3
   rw [Nat.add_mul]
   omega
theorem zgj {z:Nat}:∀ (n:Nat) (cs:List AV),(chunk z n cs).length=n
 | 0,_=>rfl
 | n+1,cs=>by simp [chunk,zgj n]
theorem made_rel {z:Value} {n sz:Nat} (hz:z.cells.size=sz) (hpos:0 < sz) (h1:allL AV.one (z.cells.toList.map .v)=true) :
  zhM (CRel S w) (repL (z.cells.toList.map .v) n) (madeCells z.cells (n*sz)):=by
 obtain ⟨_,c1,c2⟩:=zhT (S:=S) (w:=w) h1
 have hget:∀ j,j < n*sz→(madeCells z.cells (n*sz))[j]?=z.cells[j % sz]?:=by
  intro j hj
  have:j % sz < z.cells.size:=by rw [hz]; exact Nat.mod_lt _ hpos
  rw [Array.getElem?_eq_getElem this]
  simp [madeCells,hj,hz]
  exact getElem!_pos z.cells (j % sz) this
 refine ⟨by rw [size_madeCells,zou]; simp [hz],fun x hx=>?_,fun j c x hc hx=>?_⟩
 · obtain ⟨k,hk⟩:=Array.mem_iff_getElem?.1 hx
   have hlt:k < n*sz:=by
    have:=(Array.getElem?_eq_some_iff.1 hk).1
    rwa [size_madeCells] at this
   rw [hget k hlt] at hk
   exact c1 x (Array.mem_of_getElem? hk)
 · have hlt:j < n*sz:=by
    have:=(Array.getElem?_eq_some_iff.1 hx).1
    rwa [size_madeCells] at this
   rw [hget j hlt] at hx
   rw [zs2 n j (by simpa [hz] using hlt)] at hc
   exact c2 _ c x (by simpa [hz] using hc) hx
theorem zn5 {t e:TypeId} {len sz:Nat} {z:Value} {i:TypeInfo} {cs:List AV} {E:Operand→AV} {ρ:Operand→Value} {ps:Array (Nat×Operand)}
  (hu:P.underlying t=some (.slice e)) (hs:szB P e=some sz) (hi:P.info? e=some i) (hzz:i.zero=some z) (hpos:0 < sz) (hzs:z.cells.size=sz) (hlen:len*sz≤65536)
  (hz1:allL AV.one (z.cells.toList.map .v)=true) (hf:fillL (fun i=>some (i*sz,sz)) (ps.toList.map fun p=>(p.1,E p.2)) (repL (z.cells.toList.map .v) len)=some cs) (hC:allL (AV.isC 4) cs=true)
  (hp:∀ p∈ps,VRel S κ D w (E p.2) (ρ p.2)) :
  ∃ A':Array Value,(Instr.buildSlice t len (ze1 ρ ps)).run P w=.ok (.slice (some ⟨w.heap.size,0,none⟩) len len) (w.alloc (.cells A' e))∧A'.size=len*sz∧(∀ c∈chunk sz len cs,c.length=sz) ∧
    ∀ (i j:Nat) (c:List AV) (a:AV),(chunk sz len cs)[i]?=some c→c[j]?=some a→∃ u,A'[i*sz+j]?=some u∧u.oneCell'=true∧CRel S w a u:=by
 have hmade:=made_rel (S:=S) (w:=w) (n:=len) hzs hpos hz1
 obtain ⟨A',h1,h2⟩:=zmP (R:=VRel S κ D w) _ (ze1 ρ ps).toList _ cs (madeCells z.cells (len*sz)) hf (hmade.mono fun _ _ h=>.c h) (by simp [ze1]) (zqD hp)
 have hcl:cs.length=len*sz:=by
  have:=(fill_len hf)
  rw [this,zou]; simp [hzs]
 refine ⟨A',?_,by rw [h2.1,hcl],?_,?_⟩
 · have hn:¬ (len*sz > 2 ^ 24):=by omega
   by_cases h0:len*sz=0
   · have hm0:madeCells z.cells (len*sz)=#[]:=by rw [h0]; simp [madeCells]
     have hr0:∀ f:Nat→Value,(Array.range 0).map f=#[]:=fun f=>by simp [Array.range_zero']
     rw [hm0] at h1
     simp only [Instr.buildSlice,Sem.run_bind,run_underlying hu,Result.andThen_ok,zbs hs,h0,if_true,newRow]
     simp [hr0,h1]
   · have:(Array.range (len*sz)).map (z.cells[· % z.cells.size]!)=madeCells z.cells (len*sz):=rfl
     simp only [Instr.buildSlice,Sem.run_bind,run_underlying hu,Result.andThen_ok,zbs hs,hn,if_false,h0,Sem.run_pure,zfC hi hzz,newRow,run_newObj,this,h1]
     rfl
 · intro c hc
   obtain ⟨k,hk⟩:=List.mem_iff_getElem?.1 hc
   have hklt:k < len:=by
    have:=(List.getElem?_eq_some_iff.1 hk).1
    rwa [zgj] at this
   rw [zk2 len cs k hklt] at hk
   injection hk with hk
   subst hk
   have:k*sz+sz≤len*sz:=by
    rw [← Nat.succ_mul]; exact Nat.mul_le_mul_right _ hklt
   simp; omega
 · intro i j c a hi' hj
   have hklt:i < len:=by
    have:=(List.getElem?_eq_some_iff.1 hi').1
    simpa [zgj] using this
   rw [zk2 len cs i hklt] at hi'
   injection hi' with hi'
   subst hi'
   rw [List.getElem?_take] at hj
   split at hj
   case isFalse=>cases hj
   rw [List.getElem?_drop] at hj
   have hjl:i*sz+j < A'.size:=by rw [h2.1]; exact (List.getElem?_eq_some_iff.1 hj).1
   refine ⟨A'[i*sz+j],Array.getElem?_eq_getElem hjl,h2.2.1 _ (Array.getElem_mem hjl),?_⟩
   exact zkY 4 (zeC hC a (List.mem_of_getElem? hj)) (h2.2.2 _ a _ hj (Array.getElem?_eq_getElem hjl))
theorem zr9 {t:TypeId} {d len:Nat} {E:Operand→AV} {ρ:Operand→Value} {ps:Array (Nat×Operand)} {r:Res} (hS:∀ g,S g→g < w.heap.size) (hd:¬ D d)
  (h:zkd P d t len (ps.toList.map fun p=>(p.1,E p.2))=some r) (hp:∀ p∈ps,VRel S κ D w (E p.2) (ρ p.2)) :
  ∃ y w' κ',(Instr.buildSlice t len (ze1 ρ ps)).run P w=.ok y w'∧EffAt S κ D w S κ' r y w':=by
 unfold zkd at h
 split at h
 case h_2=>cases h
 rename_i e hu
 split at h
 case h_2=>cases h
 rename_i sz zero hs hz
 split at h
 case isFalse=>cases h
 rename_i hc
 obtain ⟨hpos,hzl,hlen,hz1⟩:=hc
 split at h
 case h_2=>cases h
 rename_i cs hf
 split at h
 case isFalse=>cases h
 rename_i hC
 injection h with h
 subst h
 obtain ⟨i,z,hi,hzz,rfl⟩:=zf2 hz
 obtain ⟨A',hrun,hsz',hcz,hcell⟩:=zn5 hu hs hi hzz hpos (by simpa using hzl) hlen hz1 hf hC hp
 refine ⟨_,_,_,hrun,EffAt.newBlock (d:=d) (ent:={ z:=sz,e:=e,es:=chunk sz len cs,box:=false }) (c:=len) hS hd rfl rfl rfl (.inr (by show 0 < sz; omega)) hcz hsz' (by simp [zgj]) ?_ ?_ ?_⟩
 · have:len≤len*sz:=Nat.le_mul_of_pos_right _ hpos
   unfold maxLen; omega
 · intro i j c a hi' hj
   obtain ⟨u,u1,u2,u3⟩:=hcell i j c a hi' hj
   exact ⟨u,u1,u2,(fun hb=>by cases hb),fun _=>u3⟩
 · intro S' κ' D' w' hD hk
   exact .row d sz 0 len w.heap.size len 0 len hD hk (Nat.le_refl _) (.inl (by simp)) (fun _=>rfl)
theorem aLit_sound {t:TypeId} {len:Nat} {E:Operand→AV} {ρ:Operand→Value} {ps:Array (Nat×Operand)} {r:Res} (hS:∀ g,S g→g < w.heap.size)
  (h:aLit P t len (ps.toList.map fun p=>(p.1,E p.2))=some r) (hp:∀ p∈ps,VRel S κ D w (E p.2) (ρ p.2)) :
  ∃ y w' S',(Instr.buildSlice t len (ze1 ρ ps)).run P w=.ok y w'∧EffAt S κ D w S' κ r y w':=by
 unfold aLit at h
 split at h
 case h_2=>cases h
 rename_i e hu
 split at h
 case h_2=>cases h
 rename_i sz zero hs hz
 split at h
 case isFalse=>cases h
 rename_i hc
 obtain ⟨hpos,hzl,hlen,hz1⟩:=hc
 split at h
 case h_2=>cases h
 rename_i cs hf
 split at h
 case isFalse=>cases h
 rename_i hC
 injection h with h
 subst h
 obtain ⟨i,z,hi,hzz,rfl⟩:=zf2 hz
 obtain ⟨A',hrun,hsz',hcz,hcell⟩:=zn5 hu hs hi hzz hpos (by simpa using hzl) hlen hz1 hf hC hp
 have hold:∀ g,g < w.heap.size→(w.alloc (.cells A' e)).heap[g]?=w.heap[g]?:=fun g hg=>Below.heap_alloc w _ g hg
 refine ⟨_,_,fun g=>S g∨g=w.heap.size,hrun,{
  os:=rfl
  tape:=rfl
  output:=rfl
  size:=by simp
  blk:=fun g hg _=>hold g hg
  sup:=fun _ h=>.inl h
  snew:=fun g h=>h.imp id (fun e=>.inl (by omega))
  slt:=fun g hg=>by
   rcases hg with h | h
   · have:=hS g h; simp; omega
   · simp; omega
  sfrz:=fun b hb=>by cases hb
  kold:=fun _ _=>rfl
  kout:=fun _ _=>rfl
  knew:=fun b _ hb=>by simp [ids] at hb
  one:=fun b b' _ _ hb=>by simp [ids] at hb
  ents:=fun b ent hb=>by simp at hb
  val:=.c (.sl sz _ (some ⟨w.heap.size,0,none⟩) len len (fun i j=>(A'[i*sz+j]?).getD undef) (by rw [zgj]) (Nat.le_refl _) hcz (.inr ⟨_,rfl,.inr rfl,fun i j c a hi' hj=>?_⟩) (fun i j c a hi' hj=>?_)) }⟩
 · obtain ⟨u,u1,u2,u3⟩:=hcell i j c a hi' hj
   rw [add_at,cell_of_row _ _ _ A' e (0,0) (heap_alloc_new w _),Nat.zero_add,u1]
   exact ⟨rfl,u2⟩
 · obtain ⟨u,u1,u2,u3⟩:=hcell i j c a hi' hj
   rw [u1]
   exact u3.mono (fun _ h=>.inl h) (fun g hg=>hold g (hS g hg))
theorem zza {t:TypeId} {d:Nat} {l c:AV} {x y:Value} {r:Res} (hS:∀ g,S g→g < w.heap.size) (hd:¬ D d) (h:aMake P d t l c=some r) (hx:VRel S κ D w l x) (hy:VRel S κ D w c y) :
  ∃ q w' κ',(Instr.makeSlice t x y).run P w=.ok q w'∧EffAt S κ D w S κ' r q w':=by
 unfold aMake at h
 split at h
 case h_2=>cases h
 rename_i kl n kc n'
 rw [hx.v_inv,hy.v_inv]
 split at h
 case h_2=>cases h
 rename_i e hu
 split at h
 case h_2=>cases h
 rename_i sz zero i hs hz hi
 split at h
 case isFalse=>cases h
 rename_i hc
 obtain ⟨rfl,hn,hpos,hzl,hz1,hby⟩:=hc
 injection h with h
 subst h
 obtain ⟨i',z,hi',hzz,rfl⟩:=zf2 hz
 rw [hi] at hi'
 injection hi' with hi'
 subst hi'
 have hzs:z.cells.size=sz:=by simpa using hzl
 have hsz:i.size=sz:=by simpa [szB,hi] using hs
 have hby':(i.bytes:Int)*n≤281474976710656:=by
  have h1:n.toNat*i.bytes≤1099511627776:=Nat.le_trans (Nat.mul_le_mul_left _ (by omega)) hby
  have h2:((n.toNat*i.bytes:Nat):Int)≤((1099511627776:Nat):Int):=Int.ofNat_le.2 h1
  rw [Int.natCast_mul,Int.toNat_of_nonneg hn,Int.mul_comm] at h2
  omega
 have hnb:n.toNat≤1099511627776:=Nat.le_trans (Nat.le_mul_of_pos_right _ (by omega)) hby
 have hrun:=run_make (P:=P) w t e i z hu hi hzz kl kc n n hn (Int.le_refl _) hby' (by omega)
 rw [hsz] at hrun
 have hmade:=made_rel (S:=S) (w:=w) (n:=n.toNat) hzs hpos hz1
 refine ⟨_,_,_,hrun,EffAt.newBlock (d:=d) (ent:={ z:=sz,e:=e,es:=List.replicate n.toNat (nrmL P (zhA P 8 e) (z.cells.toList.map .v)),box:=false }) (c:=n.toNat) hS hd rfl rfl rfl (.inr (by show 0 < sz; omega)) ?_ ?_ ?_ ?_ ?_ ?_⟩
 · intro cs hcs
   rw [List.eq_of_mem_replicate hcs]
   simpa [zit] using hzs
 · simp [size_madeCells]
 · simp
 · unfold maxLen; omega
 · intro k j cs a hk hj
   rw [List.getElem?_replicate] at hk
   split at hk
   case isFalse=>cases hk
   rename_i hkl
   injection hk with hk
   subst hk
   obtain ⟨a0,hj0,hac⟩:=znE P _ _ j a hj
   have hnew:∀ (x:Value),CRel S w a0 x→CRel S w a x:=by
    intro x hx
    rcases hac with rfl | ⟨t',rfl⟩
    · exact hx
    · exact zn0 hx
   have hjs:j < sz:=by have:=(List.getElem?_eq_some_iff.1 hj0).1; simpa [hzs] using this
   have hlt:k*sz+j < n.toNat*sz:=by
    have:(k+1)*sz≤n.toNat*sz:=Nat.mul_le_mul_right _ hkl
    rw [Nat.succ_mul] at this
    omega
   have hrep:(repL (z.cells.toList.map AV.v) n.toNat)[k*sz+j]?=some a0:=by
    rw [zs2 _ _ (by simpa [hzs] using hlt)]
    have:(k*sz+j) % (z.cells.toList.map AV.v).length=j:=by
     simp only [List.length_map,Array.length_toList,hzs]
     rw [Nat.mul_comm,Nat.mul_add_mod,Nat.mod_eq_of_lt hjs]
    rw [this]; exact hj0
   have hA:k*sz+j < (madeCells z.cells (n.toNat*sz)).size:=by rw [size_madeCells]; exact hlt
   exact ⟨_,Array.getElem?_eq_getElem hA,hmade.2.1 _ (Array.getElem_mem hA),(fun hb=>by cases hb),fun _=>hnew _ (hmade.2.2 _ a0 _ hrep (Array.getElem?_eq_getElem hA))⟩
 · intro S' κ' D' w' hD hk
   rw [List.length_replicate]
   exact .row d sz 0 n.toNat w.heap.size n.toNat 0 n.toNat hD hk (Nat.le_refl _) (.inl (by simp)) (fun _=>rfl)
theorem aArr_frz {P:Program} {d:Nat} {t:TypeId} {zero:List AV} {r:Res} (h:aArr P d t zero=some r):r.frz=[]:=by
 unfold aArr at h
 repeat' (split at h)
 all_goals first | (injection h with h; subst h; rfl) | cases h
theorem arr_sound {t:TypeId} {d:Nat} {z:Value} {r:Res} (hS:∀ g,S g→g < w.heap.size) (hd:¬ D d) (h1:allL AV.one (z.cells.toList.map .v)=true)
  (hr:aArr P d t (z.cells.toList.map .v)=some r) :
  ∃ q w' κ',(Instr.box t z).run P w=.ok q w'∧EffAt S κ D w S κ' r q w':=by
 unfold aArr at hr
 split at hr
 case h_2=>cases hr
 rename_i len e hu
 split at hr
 case h_2=>cases hr
 rename_i sz hs
 split at hr
 case isFalse=>cases hr
 rename_i hc
 obtain ⟨h0,hlen,hmax⟩:=hc
 injection hr with hr
 subst hr
 obtain ⟨c1,c2,c3⟩:=zhT (S:=S) (w:=w) h1
 have hel:∀ (i:Nat) (cs:List AV),(chunk sz len (z.cells.toList.map .v))[i]?=some cs→i < len∧cs=((z.cells.toList.map AV.v).drop (i*sz)).take sz:=by
  intro i cs hi
  have hlt:i < len:=by
   have:=(List.getElem?_eq_some_iff.1 hi).1
   rwa [zgj] at this
  rw [zk2 len _ i hlt] at hi
  injection hi with hi
  exact ⟨hlt,hi.symm⟩
 refine ⟨.pointer (some ⟨w.heap.size,0,none⟩),w.alloc (.cells z.cells t),_,?_,EffAt.newBlock (d:=d) (ent:={ z:=sz,e:=t,es:=chunk sz len (z.cells.toList.map .v),box:=false }) (c:=len) hS hd rfl rfl rfl (.inr (by show 0 < sz; omega)) ?_ ?_ ?_ ?_ ?_ ?_⟩
 · simp [Instr.box,newVar,newRow]
 · intro cs hcs
   obtain ⟨i,hi⟩:=List.mem_iff_getElem?.1 hcs
   obtain ⟨hlt,rfl⟩:=hel i cs hi
   rw [List.length_take,List.length_drop,hlen]
   have h2:(i+1)*sz≤len*sz:=Nat.mul_le_mul_right _ hlt
   have h3:(i+1)*sz=i*sz+sz:=by rw [Nat.add_mul,Nat.one_mul]
   show min sz (len*sz - i*sz)=sz
   omega
 · rw [c1,hlen]
 · simp [zgj]
 · unfold maxLen; omega
 · intro i j cs av hi hj
   obtain ⟨hlt,rfl⟩:=hel i cs hi
   rw [List.getElem?_take] at hj
   split at hj
   case isFalse=>cases hj
   rw [List.getElem?_drop] at hj
   have hq:i*sz+j < z.cells.size:=by rw [c1]; exact (List.getElem?_eq_some_iff.1 hj).1
   refine ⟨z.cells[i*sz+j],?_,c2 _ (Array.getElem_mem hq),?_,fun _=>c3 _ av _ hj (Array.getElem?_eq_getElem hq)⟩
   · exact Array.getElem?_eq_getElem hq
   · intro hb; cases hb
 · intro S' κ' D' w' hD hk
   have:=VRel.loc (S:=S') (w:=w') d sz 0 0 w.heap.size len hD hk
   simpa using this
theorem zvg {t:TypeId} {d:Nat} {a:AV} {x:Value} {r:Res} (hS:∀ g,S g→g < w.heap.size) (hd:¬ D d) (h1:allL AV.one a.cells=true)
  (hr:r={ val:=.loc d a.cells.length 0 0,set:=[(d,{ z:=a.cells.length,e:=t,es:=[a.cells],box:=true })] }) (hx:VRel S κ D w a x) :
  ∃ q w' κ',(Instr.box t x).run P w=.ok q w'∧EffAt S κ D w S κ' r q w':=by
 subst hr
 obtain ⟨c1,c2,c3⟩:=zog h1 hx
 refine ⟨.pointer (some ⟨w.heap.size,0,none⟩),w.alloc (.cells x.cells t),_,?_,EffAt.newBlock (d:=d) (ent:={ z:=a.cells.length,e:=t,es:=[a.cells],box:=true }) (c:=1) hS hd rfl rfl rfl (.inl rfl) ?_ ?_ ?_ ?_ ?_ ?_⟩
 · simp [Instr.box,newVar,newRow]
 · intro cs hcs; simp at hcs; rw [hcs]
 · simp [c1]
 · simp
 · unfold maxLen; omega
 · intro i j cs av hi hj
   cases i with
   | succ i=>simp at hi
   | zero =>
     simp at hi
     subst hi
     have hlt:j < x.cells.size:=by rw [c1]; exact (List.getElem?_eq_some_iff.1 hj).1
     exact ⟨x.cells[j],by simp [hlt],c2 _ (Array.getElem_mem hlt),fun _=>c3 j av _ hj (Array.getElem?_eq_getElem hlt),(fun hb=>by cases hb)⟩
 · intro S' κ' D' w' hD hk
   have:=VRel.loc (S:=S') (w:=w') d a.cells.length 0 0 w.heap.size 1 hD hk
   simpa using this
end
end Go.Ab
