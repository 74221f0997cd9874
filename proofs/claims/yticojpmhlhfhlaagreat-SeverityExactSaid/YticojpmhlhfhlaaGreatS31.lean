/- Ranking of markers: what the program and the reference compute. -/
import Derived.Test.YticojpmhlhfhlaaGreatSev
import Derived.Test.YticojpmhlhfhlaaGreatSortR
import Derived.Test.YticojpmhlhfhlaaGreatEx
namespace Go.Proofs.YticojpmhlhfhlaaGreat
open Go.Ab Go.Pure Go.PureS Go.Sort
set_option linter.unusedVariables false
set_option linter.unusedSimpArgs false
theorem bd_mn {f:Int→Int} (hf:Sm f) {l:List GJudged} (h:RL l) (m:Int):Bd 15 9 (mnR f m l):=by
 have hb:=sm_bd hf m l h.2
 have hc:=ct_le m l
 have hl:=h.1
 unfold mnR
 by_cases h0:ct m l=0
 · rw [if_pos h0]; exact ⟨by decide,by decide⟩
 · rw [if_neg h0]; exact bd_mk (by omega) (by show _≤32768; omega) (by show _≤512; omega)
theorem meanR_of {l:List GJudged} (h:RL l) {f:Int→Int} {m:Int}:meanR f l m=(ofR (mnR f m l),has m l):=by unfold meanR; rw [zax h,if_pos rfl]
theorem zuN:∀ (n:Nat) (l:List Int),l.Nodup→(∀ x∈l,1≤x∧x≤n)→l.length≤n
 | 0,l,_,h=>by
   cases l with
   | nil=>simp
   | cons a t=>have:=h a (by simp); omega
 | n+1,l,hn,h=>by
   by_cases hm:((n+1:Nat):Int)∈l
   · have ih:=zuN n (l.erase ((n+1:Nat):Int)) (hn.erase _) (fun x hx=>by
      have h1:=(hn.mem_erase_iff).1 hx
      have:=h x h1.2
      have:=h1.1
      omega)
     rw [List.length_erase_of_mem hm] at ih
     omega
   · have ih:=zuN n l hn (fun x hx=>by
      have:=h x hx
      have:x≠((n+1:Nat):Int):=fun e=>hm (e▸hx)
      omega)
     omega
def absR (r:Rat):Rat:=if r < 0 then -r else r
def szR (l:List GJudged) (m:Int):Rat:=absR (mnR idF m l)
def ltR (l:List GJudged) (x y:Int):Bool:=decide (szR l y < szR l x∨(szR l x=szR l y∧x < y))
theorem ltR_true {l:List GJudged} {x y:Int}:ltR l x y=true↔(szR l y < szR l x∨(szR l x=szR l y∧x < y)):=by unfold ltR; rw [decide_eq_true_eq]
theorem zpQ {l:List GJudged} {x y:Int}:ltR l x y=false↔¬ (szR l y < szR l x∨(szR l x=szR l y∧x < y)):=by unfold ltR; rw [decide_eq_false_iff_not]
theorem swoR (l:List GJudged):SWO (ltR l) where
 irrefl:=fun x=>by rw [zpQ]; grind
 trans:=fun x y z h1 h2=>by
  rw [ltR_true] at h1 h2 ⊢
  grind
 ntrans:=fun x y z h1 h2=>by
  rw [zpQ] at h1 h2 ⊢
  grind
theorem ltR_anti {l:List GJudged} {x y:Int} (h1:ltR l x y=false) (h2:ltR l y x=false):x=y:=by
 rw [zpQ] at h1 h2
 have:¬ (x < y)∨¬ (y < x):=by omega
 have e:szR l x=szR l y:=by grind
 have:¬ x < y:=fun q=>h1 (.inr ⟨e,q⟩)
 have:¬ y < x:=fun q=>h2 (.inr ⟨e.symm,q⟩)
 omega
theorem zGw {lt:Int→Int→Bool} (hA:∀ x y,lt x y=false→lt y x=false→x=y):∀ (a b:List Int),a.Perm b→a.Pairwise (fun x y=>lt y x=false)→b.Pairwise (fun x y=>lt y x=false)→a=b
 | [],b,hp,_,_=>by rw [List.nil_perm.1 hp]
 | x :: a,[],hp,_,_=>by exact absurd (List.perm_nil.1 hp) (by simp)
 | x :: a,y :: b,hp,h1,h2=>by
   have p1:=List.pairwise_cons.1 h1
   have p2:=List.pairwise_cons.1 h2
   have hxy:x=y:=by
    have hx:x∈y :: b:=hp.mem_iff.1 (by simp)
    have hy:y∈x :: a:=hp.mem_iff.2 (by simp)
    rcases List.mem_cons.1 hx with e | hx
    · exact e
    · rcases List.mem_cons.1 hy with e | hy
      · exact e.symm
      · exact hA x y (p2.1 x hx) (p1.1 y hy)
   subst hxy
   rw [zGw hA a b (List.Perm.cons_inv hp) p1.2 p2.2]
def dist (p:List GJudged):List Int:=p.foldl (fun ms j=>if j.Marker∈ms then ms else ms++[j.Marker]) []
theorem zwf (p:List GJudged) (j:GJudged):dist (p++[j])=if j.Marker∈dist p then dist p else dist p++[j.Marker]:=by unfold dist; rw [List.foldl_append]; rfl
theorem zDz {α:Type} {Q:List α→Prop} (h0:Q []) (hs:∀ l a,Q l→Q (l++[a])) (l:List α):Q l:=by
 rw [← List.reverse_reverse l]
 induction l.reverse with
 | nil=>exact h0
 | cons a r ih=>rw [List.reverse_cons]; exact hs _ _ ih
theorem zx7:∀ (p:List GJudged) (m:Int),m∈dist p↔∃ j∈p,j.Marker=m:=by
 intro p
 refine zDz (Q:=fun p=>∀ m,m∈dist p↔∃ j∈p,j.Marker=m) ?_ ?_ p
 · intro m; simp [dist]
 · intro p j ih m
   rw [zwf]
   split
   · rename_i h
     rw [ih]
     constructor
     · rintro ⟨x,hx,e⟩; exact ⟨x,by simp [hx],e⟩
     · rintro ⟨x,hx,e⟩
       rcases List.mem_append.1 hx with hx | hx
       · exact ⟨x,hx,e⟩
       · rw [List.mem_singleton.1 hx] at e; rw [← e]; exact (ih _).1 h
   · rw [List.mem_append,ih,List.mem_singleton]
     constructor
     · rintro (⟨x,hx,e⟩ | e)
       · exact ⟨x,by simp [hx],e⟩
       · exact ⟨j,by simp,e.symm⟩
     · rintro ⟨x,hx,e⟩
       rcases List.mem_append.1 hx with hx | hx
       · exact .inl ⟨x,hx,e⟩
       · rw [List.mem_singleton.1 hx] at e; exact .inr e.symm
theorem zyQ (p:List GJudged):(dist p).Nodup:=by
 refine zDz (Q:=fun p=>(dist p).Nodup) ?_ ?_ p
 · simp [dist]
 · intro p j ih
   rw [zwf]
   split
   · exact ih
   · rename_i h
     rw [List.nodup_append]
     refine ⟨ih,by simp,fun a ha b hb e=>?_⟩
     rw [List.mem_singleton.1 hb] at e
     exact h (e▸ha)
theorem dist_len (p:List GJudged):(dist p).length≤p.length:=by
 refine zDz (Q:=fun p=>(dist p).length≤p.length) ?_ ?_ p
 · simp [dist]
 · intro p j ih
   rw [zwf,List.length_append]
   split
   · simp; omega
   · rw [List.length_append]; simp; omega
theorem ct_mem {m:Int}:∀ {l:List GJudged},(∃ j∈l,j.Marker=m)→ct m l≠0
 | [],h=>by obtain ⟨j,hj,_⟩:=h; simp at hj
 | x :: t,h=>by
   obtain ⟨j,hj,e⟩:=h
   simp only [ct]
   rcases List.mem_cons.1 hj with rfl | hj
   · rw [if_pos e]; omega
   · have:=ct_mem (m:=m) ⟨j,hj,e⟩; omega
theorem abs_of (r:Rat) (h:-9223372036854775808 < r.num) (h2:r.num < 9223372036854775808) :
  (⟨if w64 (0 - (ofR r).Num) > (ofR r).Num then w64 (0 - (ofR r).Num) else (ofR r).Num,(ofR r).Den⟩:GRatio)=ofR (absR r):=by
 have e:w64 (0 - (ofR r).Num)=-r.num:=by rw [oN,w64_id (by omega) (by omega)]; omega
 rw [e,oN,oD]
 unfold absR
 by_cases q:r < 0
 · have:=(num_neg r).2 q
   rw [if_pos q,if_pos (by omega)]; rfl
 · have:¬ r.num < 0:=fun w=>q ((num_neg r).1 w)
   rw [if_neg q,if_neg (by omega)]; rfl
theorem bd_abs {n d:Nat} {r:Rat} (h:Bd n d r):Bd n d (absR r):=by
 unfold absR; split
 · exact h.neg
 · exact h
def tabOf (l:List GJudged) (ms:List Int):List GRatio:=(List.range 100).map fun (i:Nat)=>if (i:Int)∈ms then ofR (szR l i) else ⟨0,0⟩
theorem zr6 (l:List GJudged) (ms:List Int):(tabOf l ms).length=100:=by simp [tabOf]
theorem zuH (l:List GJudged) (ms:List Int) (i:Nat) (h:i < (tabOf l ms).length):(tabOf l ms)[i]=if (i:Int)∈ms then ofR (szR l i) else ⟨0,0⟩:=by simp [tabOf]
theorem tab_snoc (l:List GJudged) (ms:List Int) (m:Int) (h0:0≤m) (h1:m < 100):tabOf l (ms++[m])=(tabOf l ms).set m.toNat (ofR (szR l m)):=by
 apply List.ext_getElem
 · simp [tabOf]
 · intro i h1 h2
   rw [zuH,List.getElem_set]
   by_cases h:m.toNat=i
   · have e:(i:Int)=m:=by omega
     rw [if_pos h,if_pos (by rw [e]; simp),e]
   · have e:¬ (i:Int)=m:=by omega
     rw [if_neg h,zuH]
     simp only [List.mem_append,List.mem_singleton,e,or_false]
theorem c_cmpI (a b:Int):cw zdZ [I a,I b] []=some (zdp.enc (cmpZ a b)):=by
 refine ztX a b ?_
 have n:∀ x:Int,cw zi6 [I x] []=some (zgw.enc false):=fun x=>zvM x (by rw [bne_self_eq_false]; rfl)
 rw [zaL (n a),zaL (n b),brn_F,brn_F,zau,zau]
 unfold cmpZ
 split
 · rfl
 · split <;> rfl
theorem c_or2 (a b:Int):cw zmT [.sl 1 (List.map zaa [a,b])] []=some (zj2.enc (if a≠0 then a else b)):=by
 refine zAr _ ?_
 refine zjU _ _ ?_
 rw [List.length_map,zau,if_pos (by simp),zac (by omega),ztc (D:=zag) (l:=[a,b]) (i:=(0:Int).toNat) (x:=a) rfl]
 by_cases h:a=0
 · subst h
   rw [brn_f (by rfl),if_neg (by simp)]
   refine zjU _ _ ?_
   rw [List.length_map,zau,if_pos (by show (1:Int) < 2; omega),zac (by show (0:Int)≤1; omega),ztc (D:=zag) (l:=[0,b]) (i:=(w64 (0+1)).toNat) (x:=b) rfl]
   by_cases hb:b=0
   · subst hb
     rw [brn_f (by rfl)]
     refine zjU _ _ ?_
     rw [List.length_map,zau,if_neg (by show ¬ (2:Int) < 2; omega)]
     rfl
   · rw [brn_t (by simpa using hb)]
     rfl
 · rw [brn_t (by simpa using h),if_pos h]
   rfl
theorem cmpR_neg (a b:Rat):cmpZ (a.num*b.den) (b.num*a.den) < 0↔a < b:=by
 rw [Rat.lt_iff]
 unfold cmpZ
 split
 · rename_i h; exact ⟨fun _=>h,fun _=>by omega⟩
 · rename_i h; split
   · exact ⟨fun q=>by omega,fun q=>absurd q h⟩
   · exact ⟨fun q=>by omega,fun q=>absurd q h⟩
theorem cmpR_zero (a b:Rat):cmpZ (a.num*b.den) (b.num*a.den)=0↔a=b:=by
 have h1:=Rat.lt_iff a b
 have h2:=Rat.lt_iff b a
 unfold cmpZ
 constructor
 · intro h
   split at h
   · omega
   · split at h
     · omega
     · have n1:¬ a < b:=fun q=>by have:=h1.1 q; omega
       have n2:¬ b < a:=fun q=>by have:=h2.1 q; omega
       grind
 · rintro rfl
   rw [if_neg (by omega),if_neg (by omega)]
theorem cmp_ok {l:List GJudged} (hl:RL l) (ms:List Int) (hms:∀ m∈ms,0≤m∧m < 100):Cmp (tabOf l ms) (ltR l) (fun x=>x∈ms) where
 ans:=fun x y hx hy=>by
  have bx:=hms x hx
  have by_:=hms y hy
  refine ⟨if cmpZ ((szR l y).num*(szR l x).den) ((szR l x).num*(szR l y).den)≠0 then cmpZ ((szR l y).num*(szR l x).den) ((szR l x).num*(szR l y).den) else cmpZ x y,zCm x y _ ?_,?_⟩
  · have hy':y.toNat < (tabOf l ms).length:=by rw [zr6]; omega
    have hx':x.toNat < (tabOf l ms).length:=by rw [zr6]; omega
    have ey:((y.toNat:Nat):Int)=y:=by omega
    have ex:((x.toNat:Nat):Int)=x:=by omega
    rw [zac (by omega),zac (by show y < 100; omega),zbl hy',zac (by omega),zac (by show x < 100; omega),zbl hx',zuH,zuH,ey,ex,if_pos hy,if_pos hx,
     zaL (c_Compare (szR l y) (szR l x) (bd_abs (bd_mn sm_id hl y)) (bd_abs (bd_mn sm_id hl x)) (by omega) (by omega) (by omega) (by omega)),zaL (c_cmpI x y),zaL (c_or2 _ _)]
    rfl
  · unfold ltR
    rw [decide_eq_decide]
    have h1:=cmpR_neg (szR l y) (szR l x)
    have h2:=cmpR_zero (szR l y) (szR l x)
    by_cases h:cmpZ ((szR l y).num*(szR l x).den) ((szR l x).num*(szR l y).den)=0
    · have e:=h2.1 h
      rw [if_neg (fun q=>q h)]
      have hc:cmpZ x y < 0↔x < y:=by
       unfold cmpZ; split
       · omega
       · split <;> omega
      rw [hc]
      constructor
      · intro q; exact .inr ⟨e.symm,q⟩
      · rintro (q | q)
        · exact absurd (h1.2 q) (by omega)
        · exact q.2
    · rw [if_pos h,h1]
      constructor
      · exact .inl
      · rintro (q | q)
        · exact q
        · exact absurd (h2.2 q.1.symm) h
def IsRank (l:List GJudged) (r:List Int):Prop:=r.Perm (dist l)∧r.Pairwise (fun x y=>ltR l y x=false)
theorem c_Rank {l:List GJudged} (hl:RL l):∃ r,cw zmi [aJ l] []=some (ziu r)∧IsRank l r:=by
 have hmk:∀ m∈dist l,0≤m∧m < 100:=fun m hm=>by
  obtain ⟨j,hj,rfl⟩:=(zx7 l m).1 hm
  obtain ⟨h1,h2,_⟩:=hl.2 j hj
  omega
 have hdl:=dist_len l
 obtain ⟨r,hs,hp,hw⟩:=c_SortFunc (cmp_ok hl (dist l) hmk) (swoR l) (dist l) (fun x hx=>hx) (by have:=zuN 99 (dist l) (zyQ l) (fun m hm=>by obtain ⟨j,hj,rfl⟩:=(zx7 l m).1 hm; obtain ⟨h1,h2,_⟩:=hl.2 j hj; omega); omega)
 refine ⟨r,zwg l ?_,hp,hw⟩
 have hll:=hl.1
 rw [zuX l (by omega),ze6,zax hl,brn_nt]
 have hlen:r.length=(dist l).length:=hp.length_eq
 have key:∀ (k i:Nat),i+k=l.length→zgR l (List.map zaa (dist (l.take i))) (List.map zae (tabOf l (dist (l.take i)))) (i:Nat)=some (ziu r):=by
  intro k
  induction k with
  | zero =>
    intro i hi
    rw [List.take_of_length_le (by omega)]
    refine ztR l _ _ _ ?_
    rw [List.length_map,zau,if_neg (by omega),zac (by rw [List.length_map,zr6]; omega),zaL hs,zac (by rw [List.length_map,zr6]; omega),zac (by rw [List.length_map,zr6]; omega),zac (by rw [List.length_map,List.length_map]; omega)]
    rfl
  | succ k ih =>
    intro i hi
    have hi1:i < l.length:=by omega
    have IH:=ih (i+1) (by omega)
    obtain ⟨m1,m2,_⟩:=hl.2 l[i] (List.getElem_mem hi1)
    rw [List.take_succ_eq_append_getElem hi1,zwf] at IH
    refine ztR l _ _ _ ?_
    have hg:l[i].Marker.toNat < (tabOf l (dist (l.take i))).length:=by rw [zr6]; omega
    have eg:((l[i].Marker.toNat:Nat):Int)=l[i].Marker:=by omega
    rw [List.length_map,zau,if_pos (by omega),zac (by omega),Int.toNat_natCast,zbl hi1,zac (by omega),zac (by show l[i].Marker < 100; omega),Nat.zero_add,zbl hg,zuH,eg]
    have dl:=dist_len (l.take i)
    rw [List.length_take] at dl
    have en:w64 ((i:Nat)+1)=((i+1:Nat):Int):=by rw [w64_id (by omega) (by omega)]; omega
    by_cases hm:l[i].Marker∈dist (l.take i)
    · rw [if_pos hm] at IH ⊢
      have:(ofR (szR l l[i].Marker)).Den≠0:=by rw [oD]; have:=(szR l l[i].Marker).den_pos; omega
      rw [brn_t (by simpa using this),en]
      exact IH
    · rw [if_neg hm] at IH ⊢
      have hb:=(bd_mn sm_id hl l[i].Marker).1
      have hb':(mnR idF l[i].Marker l).num.natAbs≤32768:=hb
      rw [brn_f (by rfl),c_Bias l (by omega) l[i].Marker,meanR_of hl,zrL,zac (by omega),zac (by show l[i].Marker < 100; omega),zbl hg,zac rfl,zac (by rw [List.length_map]; omega),zac rfl,en,abs_of _ (by omega) (by omega)]
      rw [List.map_append,tab_snoc l _ _ (by omega) (by omega),List.map_set] at IH
      exact IH
 have h0:=key l.length 0 (by omega)
 have e0:List.map zae (tabOf l (dist (l.take 0)))=List.replicate 100 (zae ⟨0,0⟩):=by
  apply List.ext_getElem
  · rw [List.length_map,zr6,List.length_replicate]
  · intro i h1 h2
    rw [List.getElem_map,zuH,List.getElem_replicate,if_neg (by simp [dist])]
 rw [e0] at h0
 exact h0
theorem ct_of_ne {m:Int}:∀ {l:List GJudged},ct m l≠0→∃ j∈l,j.Marker=m
 | [],h=>by simp [ct] at h
 | x :: t,h=>by
   by_cases e:x.Marker=m
   · exact ⟨x,by simp,e⟩
   · simp only [ct,if_neg e] at h
     obtain ⟨j,hj,e⟩:=ct_of_ne (m:=m) (l:=t) (by omega)
     exact ⟨j,by simp [hj],e⟩
theorem szR_mk {l:List GJudged} {m:Int} (h:ct m l≠0):szR l m=mkRat ((sm idF m l).natAbs:Int) (ct m l):=by
 unfold szR absR mnR
 rw [if_neg h]
 have hp:0 < ct m l:=by omega
 split
 · rename_i hn
   rw [mk_neg]
   have:=(zEv hp).1 hn
   rw [show ((sm idF m l).natAbs:Int)=-sm idF m l by omega]
 · rename_i hn
   have hge:¬ sm idF m l < 0:=fun q=>hn ((zEv hp).2 q)
   rw [show ((sm idF m l).natAbs:Int)=sm idF m l by omega]
theorem szR_le {l:List GJudged} {m k:Int} (h:ct m l≠0) (h2:ct k l≠0):szR l m≤szR l k↔((sm idF m l).natAbs:Int)*(ct k l:Int)≤((sm idF k l).natAbs:Int)*(ct m l:Int):=by
 rw [szR_mk h,szR_mk h2,← Rat.not_lt,mk_lt (by omega) (by omega)]
 omega
theorem ins_list {α:Type} (A B:List α) (x:α) :
  (List.take (A.length+1) (A++B++[x])++List.take (A.length+B.length+1 - (A.length+1)) (List.take (A.length+B.length+1 - A.length) (List.drop A.length (A++B++[x]))) ++
   List.drop (A.length+1+min (List.take (A.length+B.length+1 - A.length) (List.drop A.length (A++B++[x]))).length (A.length+B.length+1 - (A.length+1))) (A++B++[x])).set A.length x=A++x :: B:=by
 have e:A++B++[x]=A++(B++[x]):=List.append_assoc A B [x]
 have h1:List.drop A.length (A++(B++[x]))=B++[x]:=List.drop_left
 have h2:List.take (A.length+B.length+1 - A.length) (B++[x])=B++[x]:=List.take_of_length_le (by simp; omega)
 have h3:List.take (A.length+B.length+1 - (A.length+1)) (B++[x])=B:=by
  rw [show A.length+B.length+1 - (A.length+1)=B.length by omega]
  exact List.take_left
 have h4:List.drop (A.length+1+min (B++[x]).length (A.length+B.length+1 - (A.length+1))) (A++(B++[x]))=[]:=List.drop_eq_nil_of_le (by simp; omega)
 have h5:∀ (c:α) (C:List α),(List.take (A.length+1) (A++c :: C)).set A.length x=A++[x]:=by
  intro c C
  rw [List.take_append,List.take_of_length_le (by omega),show A.length+1 - A.length=1 by omega]
  simp
 rw [e,h1,h2,h3,h4]
 cases B with
 | nil =>
   simp
   exact h5 x []
 | cons b B =>
   simp
   rw [h5]
   simp
theorem ins_at {α:Type} (out:List α) (x:α) (q:Nat) (hq:q≤out.length) :
  (List.take (q+1) (out++[x])++List.take (out.length+1 - (q+1)) (List.take (out.length+1 - q) (List.drop q (out++[x]))) ++
   List.drop (q+1+min (List.take (out.length+1 - q) (List.drop q (out++[x]))).length (out.length+1 - (q+1))) (out++[x])).set q x=out.take q++x :: out.drop q:=by
 have h:=ins_list (out.take q) (out.drop q) x
 rw [List.take_append_drop,List.length_take,List.length_drop,Nat.min_eq_left hq,show q+(out.length - q)+1=out.length+1 by omega] at h
 exact h
theorem k_rin1 (l:List GJudged) (out:List Int) (id:Int) (r4:Int×Int×Int×Int) (q:Nat) (hq:q≤out.length) (hol:out.length≤1000) (h0:1≤id) (h99:id≤99) (y:AV×Mem)
  (h:zdT l (List.map zaa (out.take q++id :: out.drop q)) (out.length+1) (id+1)=some y):zjM l (List.map zaa out) out.length id r4 q=some y:=by
 refine zBK _ _ _ _ _ _ ?_
 have hraw:List.map zaa out++[[I id]]=List.map zaa (out++[id]):=by rw [← zbu zaa]; rfl
 have hk1:((q:Int)+1).toNat=q+1:=by omega
 have hA:(out++[id]).length=out.length+1:=by simp
 simp (disch:=omega) only [hraw,zbu zaa,w64_id,hk1,Int.toNat_natCast,Nat.zero_add,List.length_map,hA,zac,zaC,← List.map_take,← List.map_drop,← List.map_append,zc6 zaa,List.length_set]
 have hX:=ins_at out id q hq
 generalize (List.take (q+1) (out++[id])++List.take (out.length+1 - (q+1)) (List.take (out.length+1 - q) (List.drop q (out++[id])))++List.drop (q+1+Min.min (List.take (out.length+1 - q) (List.drop q (out++[id]))).length (out.length+1 - (q+1))) (out++[id]))=X at hX ⊢
 have hXl:X.length=out.length+1:=by
  have:=congrArg List.length hX
  rw [List.length_set] at this
  rw [this]
  simp
  omega
 have hkX:q < X.length:=by omega
 simp (disch:=omega) only [zbi,List.getElem?_eq_getElem hkX,Option.bind_some,hX]
 exact h
theorem k_rin2 (l:List GJudged) (out:List Int) (id:Int) (r4:Int×Int×Int×Int) (q:Nat) (hq:q≤out.length) (hol:out.length≤1000) (h0:1≤id) (h99:id≤99) (y:AV×Mem)
  (h:zdT l (List.map zaa (out.take q++id :: out.drop q)) (out.length+1) (id+1)=some y):zlU l (List.map zaa out) out.length id r4 q=some y:=by
 refine zAc _ _ _ _ _ _ ?_
 have hraw:List.map zaa out++[[I id]]=List.map zaa (out++[id]):=by rw [← zbu zaa]; rfl
 have hk1:((q:Int)+1).toNat=q+1:=by omega
 have hA:(out++[id]).length=out.length+1:=by simp
 simp (disch:=omega) only [hraw,zbu zaa,w64_id,hk1,Int.toNat_natCast,Nat.zero_add,List.length_map,hA,zac,zaC,← List.map_take,← List.map_drop,← List.map_append,zc6 zaa,List.length_set]
 have hX:=ins_at out id q hq
 generalize (List.take (q+1) (out++[id])++List.take (out.length+1 - (q+1)) (List.take (out.length+1 - q) (List.drop q (out++[id])))++List.drop (q+1+Min.min (List.take (out.length+1 - q) (List.drop q (out++[id]))).length (out.length+1 - (q+1))) (out++[id]))=X at hX ⊢
 have hXl:X.length=out.length+1:=by
  have:=congrArg List.length hX
  rw [List.length_set] at this
  rw [this]
  simp
  omega
 have hkX:q < X.length:=by omega
 simp (disch:=omega) only [zbi,List.getElem?_eq_getElem hkX,Option.bind_some,hX]
 exact h
theorem abs_w (s:Int):(if 0 - s > s then 0 - s else s)=(s.natAbs:Int):=by split <;> omega
theorem k_inner {l:List GJudged} (h:RL l) (out:List Int) (id:Int) (hid:ct id l≠0) (hout:∀ m∈out,ct m l≠0) (hs:out.Pairwise (fun x y=>ltR l y x=false)) (hol:out.length≤1000) (h0:1≤id) (h99:id≤99) (y:AV×Mem) (a1 a2:Int) :
  ∀ k:Nat,k≤out.length→(∀ (j:Nat) (hj:j < out.length),k≤j→szR l out[j] < szR l id) →
  ∃ q,q≤out.length∧(∀ (j:Nat) (hj:j < out.length),j < q→szR l id≤szR l out[j])∧(∀ (j:Nat) (hj:j < out.length),q≤j→szR l out[j] < szR l id) ∧
    (zdT l (List.map zaa (out.take q++id :: out.drop q)) (out.length+1) (id+1)=some y→zhy l (List.map zaa out) out.length id ((ct id l:Nat),sm idF id l,a1,a2) k=some y):=by
 intro k
 induction k with
 | zero =>
   intro _ hk
   refine ⟨0,by omega,fun j hj h=>by omega,fun j hj _=>hk j hj (by omega),fun hy=>?_⟩
   refine zxy _ _ _ _ _ _ ?_
   simp (disch:=omega) only [zaq]
   exact k_rin2 l out id _ 0 (by omega) hol h0 h99 y hy
 | succ k ih =>
   intro hk hkj
   have hkl:k < out.length:=by omega
   have hk1:((k+1:Nat):Int) - 1=k:=by omega
   have hck:=hout _ (List.getElem_mem hkl)
   have hl:=h.1
   have b1:=sm_bd sm_id id l h.2
   have b2:=sm_bd sm_id out[k] l h.2
   have c1:=ct_le id l
   have c2:=ct_le out[k] l
   have hle:=szR_le (l:=l) hid hck
   have p1:((sm idF id l).natAbs:Int)*(ct out[k] l:Int)≤20000*500:=Int.mul_le_mul (by omega) (by omega) (by omega) (by omega)
   have p2:((sm idF out[k] l).natAbs:Int)*(ct id l:Int)≤20000*500:=Int.mul_le_mul (by omega) (by omega) (by omega) (by omega)
   have p3:0≤((sm idF id l).natAbs:Int)*(ct out[k] l:Int):=Int.mul_nonneg (by omega) (by omega)
   have p4:0≤((sm idF out[k] l).natAbs:Int)*(ct id l:Int):=Int.mul_nonneg (by omega) (by omega)
   have T:∀ y,brn (decide (((sm idF id l).natAbs:Int)*(ct out[k] l:Int)≤((sm idF out[k] l).natAbs:Int)*(ct id l:Int))) (zjM l (List.map zaa out) out.length id ((ct id l:Nat),sm idF id l,a1,a2) ((k+1:Nat):Int))
     (zhy l (List.map zaa out) out.length id ((ct id l:Nat),sm idF id l,a1,a2) k)=some y→zhy l (List.map zaa out) out.length id ((ct id l:Nat),sm idF id l,a1,a2) ((k+1:Nat):Int)=some y:=by
    intro y hy
    refine zxy _ _ _ _ _ _ ?_
    simp (disch:=omega) only [zak,w64_id,hk1,Int.toNat_natCast,Nat.zero_add,zac,zbi,List.getElem?_eq_getElem hkl,Option.bind_some,zxn h,zfO]
    rw [abs_w,abs_w,w64_id (by omega) (by omega),w64_id (by omega) (by omega)]
    exact hy
   by_cases hc:((sm idF id l).natAbs:Int)*(ct out[k] l:Int)≤((sm idF out[k] l).natAbs:Int)*(ct id l:Int)
   · refine ⟨k+1,hk,?_,hkj,fun hy=>T y ?_⟩
     · intro j hj hjk
       have hle':=hle.2 hc
       by_cases e:j=k
       · subst e; exact hle'
       · have:=List.pairwise_iff_getElem.1 hs j k hj hkl (by omega)
         have:=zpQ.1 this
         grind
     · rw [decide_eq_true hc,brn_T]
       exact k_rin1 l out id _ (k+1) hk hol h0 h99 y hy
   · have hlt:szR l out[k] < szR l id:=by rw [← Rat.not_le]; exact fun q=>hc (hle.1 q)
     obtain ⟨q,q1,q2,q3,q4⟩:=ih (by omega) (fun j hj hjk=>by
      by_cases e:j=k
      · subst e; exact hlt
      · exact hkj j hj (by omega))
     refine ⟨q,q1,q2,q3,fun hy=>T y ?_⟩
     rw [decide_eq_false hc,brn_F]
     exact q4 hy
theorem c_rRank {l:List GJudged} (h:RL l):∃ r,cw zrq [aJ l] []=some (zjZ r)∧IsRank l r:=by
 have hl:=h.1
 suffices H:∀ (k:Nat) (id:Int) (out:List Int),id+k=100→1≤id→out.Nodup→(∀ m,m∈out↔1≤m∧m < id∧ct m l≠0)→out.Pairwise (fun x y=>ltR l y x=false) →
   ∃ r,zdT l (List.map zaa out) out.length id=some (zjZ r)∧IsRank l r by
  obtain ⟨r,h1,h2⟩:=H 99 1 [] (by omega) (by omega) (by simp) (fun m=>⟨fun q=>by simp at q,fun q=>by omega⟩) (by simp)
  refine ⟨r,zAQ l ?_,h2⟩
  rw [zrR l (by omega),zfj,zax h,brn_nt]
  exact h1
 intro k
 induction k with
 | zero =>
   intro id out hid h1 hn hm hs
   refine ⟨out,zsk _ _ _ _ ?_,?_,hs⟩
   · simp (disch:=omega) only [zaq,List.length_map,zaC]
     rfl
   · rw [List.perm_ext_iff_of_nodup hn (zyQ l)]
     intro m
     rw [hm,zx7]
     constructor
     · rintro ⟨_,_,q⟩; exact ct_of_ne q
     · rintro ⟨j,hj,rfl⟩
       obtain ⟨q1,q2,_⟩:=h.2 j hj
       exact ⟨q1,by omega,ct_mem ⟨j,hj,rfl⟩⟩
 | succ k ih =>
   intro id out hid h1 hn hm hs
   have hol:out.length≤99:=zuN 99 out hn (fun x hx=>by have:=(hm x).1 hx; omega)
   by_cases hc:ct id l=0
   · obtain ⟨r,r1,r2⟩:=ih (id+1) out (by omega) (by omega) hn (fun m=>by
      rw [hm]
      constructor
      · rintro ⟨a,b,c⟩; exact ⟨a,by omega,c⟩
      · rintro ⟨a,b,c⟩
        refine ⟨a,?_,c⟩
        have:m≠id:=fun e=>c (e▸hc)
        omega) hs
     refine ⟨r,zsk _ _ _ _ ?_,r2⟩
     simp (disch:=omega) only [zak,zxn h,zfO,hc,w64_id]
     exact r1
   · have hno:id ∉ out:=fun q=>by have:=(hm id).1 q; omega
     have hin:=fun y=>k_inner h out id hc (fun m q=>((hm m).1 q).2.2) hs (by omega) h1 (by omega) y (sm abF id l) (sm agF id l) out.length (Nat.le_refl _) (fun j hj q=>by omega)
     have key:∃ q,q≤out.length∧(∀ (j:Nat) (hj:j < out.length),j < q→szR l id≤szR l out[j])∧(∀ (j:Nat) (hj:j < out.length),q≤j→szR l out[j] < szR l id):=by
      obtain ⟨q,q1,q2,q3,_⟩:=hin (.bot,[])
      exact ⟨q,q1,q2,q3⟩
     obtain ⟨q,q1,q2,q3⟩:=key
     have huniq:∀ p,p≤out.length→(∀ (j:Nat) (hj:j < out.length),j < p→szR l id≤szR l out[j])→(∀ (j:Nat) (hj:j < out.length),p≤j→szR l out[j] < szR l id)→p=q:=by
      intro p p1 p2 p3
      rcases Nat.lt_trichotomy p q with c | c | c
      · have a:=p3 p (by omega) (Nat.le_refl _)
        have b:=q2 p (by omega) c
        grind
      · exact c
      · have a:=q3 q (by omega) (Nat.le_refl _)
        have b:=p2 q (by omega) c
        grind
     have H:=ih (id+1) (out.take q++id :: out.drop q) (by omega) (by omega) ?_ ?_ ?_
     · obtain ⟨r,r1,r2⟩:=H
       refine ⟨r,zsk _ _ _ _ ?_,r2⟩
       have hlen:(out.take q++id :: out.drop q).length=out.length+1:=by simp; omega
       rw [hlen] at r1
       obtain ⟨p,p1,p2,p3,p4⟩:=hin (zjZ r)
       have:=huniq p p1 p2 p3
       subst this
       simp (disch:=omega) only [zak,zxn h,zfO]
       rw [brn_f (beq_false_of_ne (by omega))]
       exact p4 r1
     · rw [List.nodup_append]
       have hn':=hn
       rw [← List.take_append_drop q out,List.nodup_append] at hn'
       refine ⟨hn'.1,List.nodup_cons.2 ⟨fun q'=>hno (List.mem_of_mem_drop q'),hn'.2.1⟩,?_⟩
       intro a ha b hb e
       rcases List.mem_cons.1 hb with hb | hb
       · exact hno (hb▸e▸List.mem_of_mem_take ha)
       · exact hn'.2.2 a ha b hb e
     · intro m
       rw [List.mem_append,List.mem_cons]
       have:m∈out↔m∈out.take q∨m∈out.drop q:=by rw [← List.mem_append,List.take_append_drop]
       have hmm:=hm m
       constructor
       · rintro (a | a | a)
         · have:=hmm.1 (List.mem_of_mem_take a); exact ⟨this.1,by omega,this.2.2⟩
         · subst a; exact ⟨h1,by omega,hc⟩
         · have:=hmm.1 (List.mem_of_mem_drop a); exact ⟨this.1,by omega,this.2.2⟩
       · rintro ⟨a,b,c⟩
         by_cases e:m=id
         · exact .inr (.inl e)
         · rcases this.1 (hmm.2 ⟨a,by omega,c⟩) with d | d
           · exact .inl d
           · exact .inr (.inr d)
     · have hs':=hs
       rw [← List.take_append_drop q out,List.pairwise_append] at hs'
       rw [List.pairwise_append]
       have before:∀ a∈out.take q,szR l id≤szR l a∧a < id:=by
        intro a ha
        obtain ⟨j,hj,rfl⟩:=List.mem_iff_getElem.1 ha
        rw [List.length_take] at hj
        rw [List.getElem_take]
        exact ⟨q2 j (by omega) (by omega),((hm _).1 (List.getElem_mem _)).2.1⟩
       have behind:∀ b∈out.drop q,szR l b < szR l id:=by
        intro b hb
        obtain ⟨j,hj,rfl⟩:=List.mem_iff_getElem.1 hb
        rw [List.length_drop] at hj
        rw [List.getElem_drop]
        exact q3 (q+j) (by omega) (by omega)
       refine ⟨hs'.1,List.pairwise_cons.2 ⟨fun b hb=>?_,hs'.2.1⟩,?_⟩
       · have:=behind b hb
         rw [zpQ]
         grind
       · intro a ha b hb
         rcases List.mem_cons.1 hb with hb | hb
         · subst hb
           obtain ⟨u,v⟩:=before a ha
           rw [zpQ]
           grind
         · exact hs'.2.2 a ha b hb
theorem c_RankG (l:List GJudged) (hl:l.length≤1000000):∃ r,cw zmi [aJ l] []=some (ziu r)∧cw zrq [aJ l] []=some (zjZ r)∧r.length≤99:=by
 by_cases h:RL l
 · obtain ⟨r,h1,h2⟩:=c_Rank h
   obtain ⟨s,g1,g2⟩:=c_rRank h
   have e:s=r:=zGw (lt:=ltR l) (fun x y=>ltR_anti) s r (g2.1.trans h2.1.symm) g2.2 h2.2
   subst e
   refine ⟨s,h1,g1,?_⟩
   rw [g2.1.length_eq]
   exact zuN 99 _ (zyQ l) (fun m hm=>by obtain ⟨j,hj,rfl⟩:=(zx7 l m).1 hm; obtain ⟨h1,h2,_⟩:=h.2 j hj; omega)
 · refine ⟨[],zwg l ?_,zAQ l ?_,by simp⟩
   · rw [zuX l hl,ze6,zaz h,brn_nf]
     rfl
   · rw [zrR l hl,zfj,zaz h,brn_nf]
     rfl
end Go.Proofs.YticojpmhlhfhlaaGreat
namespace Go.Proofs.YticojpmhlhfhlaaGreat
open Go.Ab Go.Pure Go.PureS
set_option linter.unusedVariables false
set_option linter.unusedSimpArgs false
theorem zFK {κ ν:Type} [DecidableEq κ] (k k':κ) (v:ν):∀ l:List (κ×ν),mfind k (mput k' v l)=if k'=k then some v else mfind k l
 | []=>by simp [mput,mfind]
 | p :: r=>by
   simp only [mput]
   by_cases h:p.1=k'
   · rw [if_pos h]
     simp only [mfind]
     by_cases h2:k'=k
     · rw [if_pos h2,if_pos h2]
     · rw [if_neg h2,if_neg h2,if_neg (by rw [h]; exact h2)]
   · rw [if_neg h]
     simp only [mfind]
     rw [zFK k k' v r]
     by_cases h2:p.1=k
     · rw [if_pos h2,if_pos h2,if_neg (fun e=>h (by rw [h2,e]))]
     · rw [if_neg h2,if_neg h2]
noncomputable def pairOf (r:GMarkRule) (s:GSetup) (m:GMarking) (g:GGiven):List GJudged:=
 if 0≤g.Part then match (verdR r s m g.Script).1[g.Part.toNat]? with
  | some v=>if v.State=3 then [⟨g.Marker,if 0 > g.Value then 0 else g.Value,v.Value⟩] else []
  | none=>[]
 else []
theorem zFq (r:GMarkRule) (s:GSetup) (m:GMarking) (g:GGiven):(pairOf r s m g).length≤1:=by
 unfold pairOf
 split
 · split
   · split <;> simp
   · simp
 · simp
noncomputable def zgs (r:GMarkRule) (s:GSetup) (m:GMarking):List GJudged:=m.Given.flatMap (pairOf r s m)
theorem zDh {α β:Type} (f:α→List β) (h:∀ a,(f a).length≤1):∀ l:List α,(l.flatMap f).length≤l.length
 | []=>by simp
 | a :: l=>by
   have:=zDh f h l
   have:=h a
   simp only [List.flatMap_cons,List.length_append,List.length_cons]
   omega
theorem c_sPairs (r:GMarkRule) (s:GSetup) (hs:OkSetup s) (m:GMarking) (hr:chkR r=0) (hm:SmallM m) (hg:∀ g∈m.Given,∃ x∈s.Scripts,x.Number=g.Script) (hgl:m.Given.length≤400) :
  cw zpp [.agg (zaU r),.agg (zat s),.agg (zbk m)] []=some (zfK (zgs r s m,0)):=by
 have hx60:=hs.scripts.1
 refine zDe r s m ?_
 simp only [zvZ hs,zrP,bne_self_eq_false,zai,zrI,znM,hr]
 refine zaZ s.Scripts (fun i rest=>∀ E:List (Int×List GVerdict),(∀ x∈s.Scripts,x∈rest∨mfind x.Number E=some (verdS r s m x))→ziM r s m (List.map zds E) i=some (zfK (zgs r s m,0))) ?_ ?_ [] (fun x hx=>.inl hx)
 · intro E hE
   have hE':∀ x∈s.Scripts,mfind x.Number E=some (verdS r s m x):=fun x hx=>(hE x hx).resolve_left (by simp)
   refine zs0 _ _ _ _ _ ?_
   simp (disch:=omega) only [List.length_map,zaq]
   refine zaZ m.Given (fun i rest=>∀ out:List GJudged,(out.length:Int)≤i→out++rest.flatMap (pairOf r s m)=zgs r s m→(∀ g∈rest,g∈m.Given)→zc1 m (List.map zds E) (List.map zan out) i=some (zfK (zgs r s m,0))) ?_ ?_ [] (by simp) rfl (fun g h=>h)
   · intro out ho he _
     have he':out=zgs r s m:=by simpa using he
     subst he'
     refine zsK _ _ _ _ ?_
     simp (disch:=omega) only [List.length_map,zaq,Nat.zero_add,Nat.le_refl,zaC]
     rw [List.take_of_length_le (by simp)]
     rfl
   · intro i hi rest _ ih out ho he hin
     have hgi:=hin m.Given[i] (by simp)
     obtain ⟨x,hx,hxn⟩:=hg _ hgi
     have hlook:mfind m.Given[i].Script E=some (verdS r s m x):=by rw [← hxn]; exact hE' x hx
     have hv:verdR r s m m.Given[i].Script=(verdS r s m x,0):=by
      unfold verdR
      rw [if_pos hr,← hxn,zkj hs.scripts.2.2 hx]
     have hin':∀ g∈rest,g∈m.Given:=fun g h=>hin g (by simp [h])
     rw [List.flatMap_cons] at he
     refine zsK _ _ _ _ ?_
     simp (disch:=omega) only [List.length_map,zak,zac,Int.toNat_natCast,zbP,List.getElem?_eq_getElem hi,Option.bind_some,zw1,hlook,Option.getD_some,w64_id]
     have skip:pairOf r s m m.Given[i]=[]→zc1 m (List.map zds E) (List.map zan out) ((i:Int)+1)=some (zfK (zgs r s m,0)):=by
      intro h0
      rw [h0,List.nil_append] at he
      exact ih out (by omega) he hin'
     by_cases hp:m.Given[i].Part < 0
     · simp (disch:=omega) only [zak]
       exact skip (by unfold pairOf; rw [if_neg (by omega)])
     · by_cases hp2:((verdS r s m x).length:Int)≤m.Given[i].Part
       · simp (disch:=omega) only [zak,zaq]
         refine skip ?_
         unfold pairOf
         rw [if_pos (by omega),hv]
         dsimp only
         rw [List.getElem?_eq_none (by omega)]
       · have hlt:m.Given[i].Part.toNat < (verdS r s m x).length:=by omega
         have hpo:pairOf r s m m.Given[i]=if (verdS r s m x)[m.Given[i].Part.toNat].State=3 then [⟨m.Given[i].Marker,if 0 > m.Given[i].Value then 0 else m.Given[i].Value,(verdS r s m x)[m.Given[i].Part.toNat].Value⟩] else []:=by
          unfold pairOf
          rw [if_pos (by omega),hv]
          dsimp only
          rw [List.getElem?_eq_getElem hlt]
         simp (disch:=omega) only [zaq,zac,zjV,List.getElem?_eq_getElem hlt,Option.bind_some]
         by_cases h3:(verdS r s m x)[m.Given[i].Part.toNat].State=3
         · rw [hpo,if_pos h3] at he
           have e3:((verdS r s m x)[m.Given[i].Part.toNat].State != 3)=false:=by simpa using h3
           have e5:((out.length:Int) == 500)=false:=beq_false_of_ne (by omega)
           simp (disch:=omega) only [e3,e5,zai,zaC,zac,zbu zan]
           refine ih (out++[_]) (by simp; omega) ?_ hin'
           rw [List.append_assoc]
           exact he
         · have e3:((verdS r s m x)[m.Given[i].Part.toNat].State != 3)=true:=by simpa using h3
           simp only [e3,zap]
           exact skip (by rw [hpo,if_neg h3])
 · intro i hi rest hrest ih E hE
   refine zs0 _ _ _ _ _ ?_
   have hx:=List.getElem_mem hi
   have hv:zd0 s.Scripts s.Scripts[i].Number=some s.Scripts[i]:=zkj hs.scripts.2.2 hx
   simp (disch:=omega) only [List.length_map,zak,zac,Int.toNat_natCast,zej,List.getElem?_eq_getElem hi,Option.bind_some,c_Verdicts r s hs m hm,hr,hv,if_true,ztO,bne_self_eq_false,zai,zwp,w64_id]
   refine ih _ (fun x hx=>?_)
   rw [zFK]
   by_cases e:s.Scripts[i].Number=x.Number
   · right
     have h1:=zkj hs.scripts.2.2 hx
     rw [← e,hv] at h1
     cases h1
     rw [if_pos e]
   · rw [if_neg e]
     rcases hE x hx with h | h
     · rcases List.mem_cons.1 h with h | h
       · exact absurd (by rw [h]) e
       · exact .inl h
     · exact .inr h
theorem c_rPairs (r:GMarkRule) (s:GSetup) (hs:OkSetup s) (m:GMarking) (hr:chkR r=0) (hm:SmallM m) (hg:∀ g∈m.Given,∃ x∈s.Scripts,x.Number=g.Script) (hgl:m.Given.length≤400) :
  cw ztI [.agg (zaU r),.agg (zat s),.agg (zbk m)] []=some (zlj (zgs r s m,0)):=by
 refine zGY r s m ?_
 simp only [ztC hs,znU,bne_self_eq_false,zai,zzv,ztZ,hr]
 have hpl:(zgs r s m).length≤400:=Nat.le_trans (zDh _ (zFq r s m) _) hgl
 refine zaZ m.Given (fun i rest=>∀ out:List GJudged,(out.length:Int)≤i→out++rest.flatMap (pairOf r s m)=zgs r s m→(∀ g∈rest,g∈m.Given)→zdy r s m (List.map zan out) i=some (zlj (zgs r s m,0))) ?_ ?_ [] (by simp) rfl (fun g h=>h)
 · intro out ho he _
   have he':out=zgs r s m:=by simpa using he
   subst he'
   refine zvW _ _ _ _ _ ?_
   simp (disch:=omega) only [List.length_map,zaq,Nat.zero_add,Nat.le_refl,zaC]
   rw [List.take_of_length_le (by simp)]
   rfl
 · intro i hi rest _ ih out ho he hin
   have hgi:=hin m.Given[i] (by simp)
   obtain ⟨x,hx,hxn⟩:=hg _ hgi
   have hv:verdR r s m m.Given[i].Script=(verdS r s m x,0):=by
    unfold verdR
    rw [if_pos hr,← hxn,zkj hs.scripts.2.2 hx]
   have hin':∀ g∈rest,g∈m.Given:=fun g h=>hin g (by simp [h])
   rw [List.flatMap_cons] at he
   refine zvW _ _ _ _ _ ?_
   simp (disch:=omega) only [List.length_map,zak,zac,Int.toNat_natCast,zbP,List.getElem?_eq_getElem hi,Option.bind_some,zDY r s hs m (show m.Given.length≤100000 by omega) hm,hv,zyx,beq_self_eq_true,zap,w64_id]
   have skip:pairOf r s m m.Given[i]=[]→zdy r s m (List.map zan out) ((i:Int)+1)=some (zlj (zgs r s m,0)):=by
    intro h0
    rw [h0,List.nil_append] at he
    exact ih out (by omega) he hin'
   by_cases hp:m.Given[i].Part < 0
   · simp (disch:=omega) only [zaq]
     exact skip (by unfold pairOf; rw [if_neg (by omega)])
   · by_cases hp2:((verdS r s m x).length:Int)≤m.Given[i].Part
     · simp (disch:=omega) only [zak,zaq]
       refine skip ?_
       unfold pairOf
       rw [if_pos (by omega),hv]
       dsimp only
       rw [List.getElem?_eq_none (by omega)]
     · have hlt:m.Given[i].Part.toNat < (verdS r s m x).length:=by omega
       have hpo:pairOf r s m m.Given[i]=if (verdS r s m x)[m.Given[i].Part.toNat].State=3 then [⟨m.Given[i].Marker,if 0 > m.Given[i].Value then 0 else m.Given[i].Value,(verdS r s m x)[m.Given[i].Part.toNat].Value⟩] else []:=by
        unfold pairOf
        rw [if_pos (by omega),hv]
        dsimp only
        rw [List.getElem?_eq_getElem hlt]
       simp (disch:=omega) only [zak,zac,zjV,List.getElem?_eq_getElem hlt,Option.bind_some]
       by_cases h3:(verdS r s m x)[m.Given[i].Part.toNat].State=3
       · rw [hpo,if_pos h3] at he
         have e3:((verdS r s m x)[m.Given[i].Part.toNat].State == 3)=true:=by simpa using h3
         simp (disch:=omega) only [e3,zap,zaC,zac,zbu zan]
         refine ih (out++[_]) (by simp; omega) ?_ hin'
         rw [List.append_assoc]
         exact he
       · have e3:((verdS r s m x)[m.Given[i].Part.toNat].State == 3)=false:=by simpa using h3
         simp only [e3,zai]
         exact skip (by rw [hpo,if_neg h3])
theorem c_lpairs (d:GmarkDice) (n:Int) (hd:DOk d) (hn:0≤n∧n≤100):∃ (l:List GJudged) (d':GmarkDice),cw zlC [.loc 1000 2 0 0,I n] (mD d)=some (zoK (l,d'))∧(l.length:Int)≤n∧DOk d':=by
 let Q:AV×Mem→Prop:=fun y=>∃ (l:List GJudged) (d':GmarkDice),y=zoK (l,d')∧(l.length:Int)≤n∧DOk d'
 suffices H:Sat Q (cw zlC [.loc 1000 2 0 0,I n] (mD d)) by
  obtain ⟨y,e,l,d',rfl,h⟩:=H
  exact ⟨l,d',e,h⟩
 obtain ⟨n0,d0,e0,a0,b0,hd0⟩:=zbp d (n+1) hd (by omega)
 refine sat_of (fun y=>zHD _ _) ?_
 simp (disch:=omega) only [w64_id,e0,zaH]
 have loop:∀ (i:Nat) (out:List GJudged) (d:GmarkDice),(out.length:Int)+i≤n→DOk d→Sat Q (zmd (List.map zan out) d i):=by
  intro i
  induction i with
  | zero =>
    intro out d ho hd
    refine sat_of (fun y=>zwa _ _ _) ?_
    simp (disch:=omega) only [zaq,zaC]
    exact zer ⟨out,d,rfl,by omega,hd⟩
  | succ i ih =>
    intro out d ho hd
    obtain ⟨n1,d1,e1,a1,b1,hd1⟩:=zbp d 4 hd (by omega)
    obtain ⟨n2,d2,e2,a2,b2,hd2⟩:=zbp d1 7 hd1 (by omega)
    obtain ⟨n3,d3,e3,a3,b3,hd3⟩:=zbp d2 7 hd2 (by omega)
    have hi1:((i+1:Nat):Int) - 1=i:=by omega
    refine sat_of (fun y=>zwa _ _ _) ?_
    simp (disch:=omega) only [zak,e1,e2,e3,zaH,List.length_map,zac,zaC,zbu zan,w64_id,hi1]
    exact ih (out++[_]) d3 (by simp; omega) hd3
 have:=loop n0.toNat [] d0 (by simp; omega) hd0
 rw [show ((n0.toNat:Nat):Int)=n0 by omega] at this
 exact this
theorem c_lsame (a:List Int) (hl:a.length≤1000000):cw zuI [.sl 1 (List.map zaa a),.sl 1 (List.map zaa a)] []=some (zq0 true):=by
 refine zJm a a ?_
 simp only [bne_self_eq_false,zai]
 refine zaZ a (fun i _=>zne a a i=some (zq0 true)) ?_ ?_
 · exact zxu _ _ _ (by simp (disch:=omega) only [List.length_map,zaq]; rfl)
 · intro i hi _ _ ih
   refine zxu _ _ _ ?_
   simp (disch:=omega) only [List.length_map,zak,zac,Int.toNat_natCast,zbi,List.getElem?_eq_getElem hi,Option.bind_some,bne_self_eq_false,zai,w64_id,ih]
set_option maxRecDepth 20000 in
theorem zJx (t:List Int) (raw:List GJudged) (a b:List Int) (id:Int) :
  cw zpL [.sl 1 (List.map zaa t),.sl 3 (List.map zan raw),.sl 1 (List.map zaa a),.sl 1 (List.map zaa b),I id] []=some (.v (.bool true),[]):=by
 refine zxa t raw a b id ?_
 simp only [c_Light,zC6]
 by_cases hl:(t.length:Int)≤600
 case neg =>
  simp (disch:=omega) only [decide_eq_false hl,Bool.not_false,zap,zuK,zhF]
 simp only [decide_eq_true hl,Bool.not_true,zai,List.length_map]
 by_cases hrl:raw.length≤60
 case neg =>
  simp (disch:=omega) only [zak,zuK,zhF]
 by_cases hal:a.length≤60
 case neg =>
  simp (disch:=omega) only [zak,zaq,zuK,zhF]
 by_cases hbl:b.length≤60
 case neg =>
  simp (disch:=omega) only [zak,zaq,zuK,zhF]
 have hd0:DOk ⟨t,0⟩:=⟨by simp,by simp; omega⟩
 obtain ⟨s,d1,e1,hD,hd1⟩:=c_Setup ⟨t,0⟩ hd0
 have hs:=hD.ok
 obtain ⟨r,d2,e2,t1,t2,hd2⟩:=c_Rule d1 hd1
 obtain ⟨ev,d3,e3,l3,p3,hd3⟩:=c_Events d2 s 20 hd2 hD (by omega)
 obtain ⟨fu,d4,e4,l4,p4,hd4⟩:=c_Full d3 s 50 hd3 hD
 have hle:(ev++fu).length≤140:=by simp; omega
 have hpe:∀ e∈ev++fu,e.Pages.length≤1000000:=by
  intro e he
  rcases List.mem_append.1 he with h | h
  · have:=p3 e h; omega
  · have:=p4 e h; omega
 obtain ⟨m,e5,g1,g2,g3⟩:=zI2 s hs (ev++fu) (by omega) hpe
 have hr:chkR r=0:=by unfold chkR; simp (disch:=omega) [if_neg]; try omega
 have hm:SmallM m:=by
  refine ⟨by omega,fun g hg=>?_⟩
  obtain ⟨e,⟨x',a1,_,_,k',p',y',a2,a0,a3,_,a4,_⟩,b1,b2,b3⟩:=g2 g hg
  have:=((hs.okPaper (ziI a2).1).2.2.2.1 y' (List.mem_of_getElem? a3)).1
  omega
 have hg:∀ g∈m.Given,∃ x∈s.Scripts,x.Number=g.Script:=by
  intro g hg
  obtain ⟨e,⟨x',a1,_⟩,b1,_⟩:=g2 g hg
  obtain ⟨q1,q2⟩:=zwV a1
  exact ⟨x',q1,by rw [b1]; exact q2⟩
 have hgl:m.Given.length≤400:=by omega
 have htk2:List.take fu.length (List.map zab fu)=List.map zab fu:=List.take_of_length_le (by simp)
 have htk:List.take (ev.length+fu.length) (List.map zab ev++List.map zab fu)=List.map zab (ev++fu):=by
  rw [← List.map_append,List.take_of_length_le (by simp)]
 simp (disch:=omega) only [zaq,c_Roll,zEI,e1,zxW,e2,zyn,e3,zwS,e4,zyN,List.length_map,Nat.zero_add,Nat.le_refl,zaC,eq_self,htk2,List.length_append,zac,htk,e5,zDK,
  c_sPairs r s hs m hr hm hg hgl,zx9,c_rPairs r s hs m hr hm hg hgl,zBU,bne_self_eq_false,zai]
 have hpl:(zgs r s m).length≤400:=Nat.le_trans (zDh _ (zFq r s m) _) hgl
 generalize zgs r s m=P at hpl ⊢
 refine zaZ P (fun i _=>zfw raw a b id (fu,d4) (P,0) (P,0) i=some (.v (.bool true),[])) ?_ ?_
 case refine_2 =>
  intro i hi _ _ ih
  refine znI _ _ _ _ _ _ _ _ ?_
  simp (disch:=omega) only [List.length_map,zak,zac,Int.toNat_natCast,zel,List.getElem?_eq_getElem hi,Option.bind_some,beq_self_eq_true,Bool.and_self,Bool.not_true,zai,w64_id,ih]
 obtain ⟨u,d5,e6,lu,hd5⟩:=c_lpairs d4 20 hd4 (by omega)
 obtain ⟨v,d6,e7,lv,hd6⟩:=c_lpairs d5 3 hd5 (by omega)
 refine znI _ _ _ _ _ _ _ _ ?_
 simp (disch:=omega) only [List.length_map,zaq,e6,e7,zCA,zaC,zac,Nat.zero_add,Nat.le_refl,List.length_append]
 have four:∀ (n i:Nat) (d:GmarkDice),i+n=4→DOk d→zfy raw a b id (P,0) (u,d5) (v,d6) d i=some (.v (.bool true),[]):=by
  intro n
  induction n with
  | zero =>
    intro i d hi hd
    obtain ⟨n1,d7,e8,a1,b1,hd7⟩:=zbp d 3 hd (by omega)
    obtain ⟨n2,d8,e9,a2,b2,hd8⟩:=zbp d7 3 hd7 (by omega)
    obtain ⟨n3,d9,e10,a3,b3,hd9⟩:=zbp d8 3 hd8 (by omega)
    obtain ⟨n4,d10,e11,a4,b4,hd10⟩:=zbp d9 3 hd9 (by omega)
    obtain ⟨n5,d11,e12,a5,hd11⟩:=c_Pick d10 [40,41,-1,0] hd10 (by simp) (by simp)
    refine znJ _ _ _ _ _ _ _ _ _ ?_
    simp (disch:=omega) only [zaq,e8,e9,e10,e11,zaH,e12,zkJ,zac]
    have last:∀ (q j:Nat),j+q=4→zfx raw a b id (P,0) (u,d5) (v,d6) i (n1,d7) (n2,d8) (n3,d9) (n4,d10) (n5,d11) j=some (.v (.bool true),[]):=by
     intro q
     induction q with
     | zero =>
       intro j hj
       refine znK _ _ _ _ _ _ _ _ _ _ _ _ _ _ ?_
       simp (disch:=omega) only [zaq,zuK,zhF]
     | succ q ih =>
       intro j hj
       have hj4:(j:Int) < ((4:Nat):Int):=by omega
       have hL:[zdO (a,b),zdO ([n1,n2,40],[n3,n4,n5]),zdO ([n1,n2,40],[n1,n2,40]),zdO ([n1],[n3])]=List.map zdO [(a,b),([n1,n2,40],[n3,n4,n5]),([n1,n2,40],[n1,n2,40]),([n1],[n3])]:=rfl
       have hjl:j < [(a,b),([n1,n2,40],[n3,n4,n5]),([n1,n2,40],[n1,n2,40]),([n1],[n3])].length:=by simp; omega
       have hsm:∀ p∈[(a,b),([n1,n2,40],[n3,n4,n5]),([n1,n2,40],[n1,n2,40]),([n1],[n3])],p.1.length≤1000000∧p.2.length≤1000000:=by
        intro p hp
        simp only [List.mem_cons,List.not_mem_nil,or_false] at hp
        rcases hp with rfl | rfl | rfl | rfl
        · exact ⟨by dsimp only; omega,by dsimp only; omega⟩
        · simp
        · simp
        · simp
       refine znK _ _ _ _ _ _ _ _ _ _ _ _ _ _ ?_
       simp (disch:=omega) only [zak,zac,hL,Int.toNat_natCast,zD8,List.getElem?_eq_getElem hjl,Option.bind_some]
       have hsj:=hsm _ (List.getElem_mem hjl)
       generalize [(a,b),([n1,n2,40],[n3,n4,n5]),([n1,n2,40],[n1,n2,40]),([n1],[n3])][j]=p at hsj ⊢
       simp (disch:=omega) only [c_Kappa p.1 p.2 hsj.1 hsj.2,zzo,c_rKappa p.1 p.2 hsj.1 hsj.2,zB1,beq_self_eq_true,Bool.and_self,Bool.not_true,zai,bne_self_eq_false,w64_id]
       exact ih (j+1) (by omega)
    exact last 4 0 (by omega)
  | succ n ih =>
    intro i d hi hd
    obtain ⟨n1,d7,e8,a1,b1,hd7⟩:=zbp d 5 hd (by omega)
    have hi4:(i:Int) < ((4:Nat):Int):=by omega
    have hL:[zi5 P,[.sl 3 (List.take ((List.map zan u).length) (List.map zan u))],zi5 raw,[.sl 3 (List.take ((List.map zan v++List.map zan raw).length) ((List.map zan v)++(List.map zan raw)))]]=List.map zi5 [P,u,raw,v++raw]:=by
     rw [List.take_length,List.take_length,← List.map_append]
     rfl
    have hil:i < [P,u,raw,v++raw].length:=by simp; omega
    have hsm:∀ p∈[P,u,raw,v++raw],p.length≤1000000:=by
     intro p hp
     simp only [List.mem_cons,List.not_mem_nil,or_false] at hp
     rcases hp with rfl | rfl | rfl | rfl
     · omega
     · omega
     · omega
     · rw [List.length_append]; omega
    refine znJ _ _ _ _ _ _ _ _ _ ?_
    simp (disch:=omega) only [zak,zac,hL,Int.toNat_natCast,zFG,List.getElem?_eq_getElem hil,Option.bind_some]
    have hsi:=hsm _ (List.getElem_mem hil)
    generalize [P,u,raw,v++raw][i]=p at hsi ⊢
    obtain ⟨k,k1,k2,k3⟩:=c_RankG p hsi
    have htk3:List.take k.length (List.map zaa k)=List.map zaa k:=List.take_of_length_le (by simp)
    simp (disch:=omega) only [k1,zz5,k2,zDO,List.length_map,Nat.zero_add,Nat.le_refl,zaC,htk3,c_lsame k (show k.length≤1000000 by omega),zDv,Bool.not_true,zai,e8,zaH]
    have three:∀ (q j:Nat),j+q=3→zfu raw a b id (P,0) (u,d5) (v,d6) i p (n1,d7) j=some (.v (.bool true),[]):=by
     intro q
     induction q with
     | zero =>
       intro j hj
       refine znN _ _ _ _ _ _ _ _ _ _ _ ?_
       simp (disch:=omega) only [zaq,w64_id]
       exact ih (i+1) d7 (by omega) hd7
     | succ q ih2 =>
       intro j hj
       have hj3:(j:Int) < ((3:Nat):Int):=by omega
       have hL3:[zaa id,zaa (1+n1),zaa 99]=List.map zaa [id,1+n1,99]:=rfl
       have hjl:j < [id,1+n1,99].length:=by simp; omega
       refine znN _ _ _ _ _ _ _ _ _ _ _ ?_
       simp (disch:=omega) only [zak,zac,w64_id,hL3,Int.toNat_natCast,zbi,List.getElem?_eq_getElem hjl,Option.bind_some]
       generalize [id,1+n1,99][j]=z
       simp (disch:=omega) only [c_Bias p hsi,zrL,c_rBias p hsi,zEd,c_Spread p hsi,zxm,c_rSpread p hsi,zAj,zJI p hsi,zu5,zJe p hsi,zxF,beq_self_eq_true,Bool.and_self,Bool.not_true,zai,bne_self_eq_false,w64_id]
       exact ih2 (j+1) (by omega)
    exact three 3 0 (by omega)
 exact four 4 0 d6 (by omega) hd6
end Go.Proofs.YticojpmhlhfhlaaGreat
