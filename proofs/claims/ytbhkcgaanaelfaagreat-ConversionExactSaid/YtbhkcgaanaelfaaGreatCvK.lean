/- The places of a composed curve: sorted and compacted by the program, inserted one by one by the reference. -/
import Derived.Test.YtbhkcgaanaelfaaGreatSrtJ
import Derived.Test.YtbhkcgaanaelfaaGreatPurJ
namespace Go.Proofs.YtbhkcgaanaelfaaGreat
open Go.Ab Go.Pure Go.Sort
set_option linter.unusedVariables false
set_option linter.unusedSimpArgs false
set_option maxRecDepth 20000
def vG (x:GRatio):Rat:=mkRat x.Num x.Den.toNat
theorem vG_of (r:Rat):vG (ofR r)=r:=by simp [vG,ofR,Rat.mkRat_self]
def ltG (x y:GRatio):Bool:=decide (vG x < vG y)
def PG (x:GRatio):Prop:=∃ r,x=ofR r∧Fit r
theorem swoG:SWO ltG where
 irrefl:=fun x=>by simp only [ltG,decide_eq_false_iff_not]; grind
 trans:=fun x y z h1 h2=>by simp only [ltG,decide_eq_true_eq] at *; grind
 ntrans:=fun x y z h1 h2=>by simp only [ltG,decide_eq_false_iff_not] at *; grind
theorem cmpG:Cmp ltG PG:=⟨fun x y hx hy=>by
 obtain ⟨a,rfl,ha⟩:=hx
 obtain ⟨b,rfl,hb⟩:=hy
 refine ⟨_,zpV a b ha hb,?_⟩
 have h1:(a < b)↔a.num*b.den < b.num*a.den:=Rat.lt_iff a b
 unfold ltG
 rw [vG_of,vG_of]
 by_cases h:a < b
 · rw [decide_eq_true h,decide_eq_true_eq]
   have:=h1.1 h
   unfold cmpZ
   repeat' split
   all_goals omega
 · rw [decide_eq_false h,decide_eq_false_iff_not]
   have:¬ (a.num*b.den < b.num*a.den):=fun h'=>h (h1.2 h')
   unfold cmpZ
   repeat' split
   all_goals omega⟩
theorem zy6 {l:List GRatio} {rs:List Rat} (h:l.Perm (rs.map ofR)):l=(l.map vG).map ofR∧(l.map vG).Perm rs:=by
 constructor
 · rw [List.map_map]
   conv=>lhs; rw [← List.map_id l]
   refine List.map_congr_left (fun x hx=>?_)
   have:=h.mem_iff.1 hx
   obtain ⟨r,_,rfl⟩:=List.mem_map.1 this
   simp [vG_of]
 · have:=h.map vG
   rw [List.map_map] at this
   have e:(vG ∘ ofR)=id:=by funext r; exact vG_of r
   rw [e,List.map_id] at this
   exact this
theorem c_sortR (rs:List Rat) (hv:∀ r∈rs,Fit r) (hl:rs.length < 100) :
  ∃ ss:List Rat,cw zbM [.row 1000 2 0 (List.map zaa (rs.map ofR)).length,.fn zag []] [(1000,⟨2,zac,List.map zaa (rs.map ofR),false⟩)]=some (zbq.enc (ss.map ofR))∧ss.Perm rs∧ss.Pairwise (·≤·):=by
 obtain ⟨l',h1,h2,h3⟩:=c_SortFunc cmpG swoG (rs.map ofR) (fun x hx=>by
  obtain ⟨r,hr,rfl⟩:=List.mem_map.1 hx
  exact ⟨r,rfl,hv r hr⟩) (by simpa using hl)
 obtain ⟨e1,e2⟩:=zy6 h2
 refine ⟨l'.map vG,by rw [← e1]; exact h1,e2,?_⟩
 rw [List.pairwise_map]
 refine h3.imp (fun {x y} h=>?_)
 simp only [ltG,decide_eq_false_iff_not] at h
 grind
theorem c_compactR (ss:List Rat) (hl:ss.length≤100000) (hs:ss.Pairwise (·≤·)) :
  ∃ (xs:List Rat) (l':List GRatio),cw zbP [.row 1000 2 0 (List.map zaa (ss.map ofR)).length] [(1000,⟨2,zac,List.map zaa (ss.map ofR),false⟩)]=some (rCp xs.length l') ∧
    l'.take xs.length=xs.map ofR∧xs.Pairwise (· < ·)∧(∀ x,x∈xs↔x∈ss)∧l'.length=ss.length:=by
 obtain ⟨l',h1,h2,h3⟩:=c_Compact (ss.map ofR) (by simpa using hl)
 have hm:∀ x,x∈dq (ss.map ofR) (ss.map ofR).length↔x∈ss.map ofR:=dq_mem _
 have ha:=dq_asc (ss.map ofR) vG (fun x hx y hy h=>by
  obtain ⟨a,_,rfl⟩:=List.mem_map.1 hx
  obtain ⟨b,_,rfl⟩:=List.mem_map.1 hy
  rw [vG_of,vG_of] at h
  rw [h]) (by
  rw [List.pairwise_map]
  refine hs.imp (fun {x y} h=>?_)
  rw [vG_of,vG_of]
  exact h) _ (Nat.le_refl _)
 generalize dq (ss.map ofR) (ss.map ofR).length=m at h1 h2 hm ha
 have e1:m=(m.map vG).map ofR:=by
  rw [List.map_map]
  conv=>lhs; rw [← List.map_id m]
  refine List.map_congr_left (fun x hx=>?_)
  obtain ⟨r,_,rfl⟩:=List.mem_map.1 ((hm x).1 hx)
  simp [vG_of]
 have eL:(m.map vG).length=m.length:=List.length_map _
 refine ⟨m.map vG,l',by rw [eL]; exact h1,by rw [eL,← e1]; exact h2,?_,fun x=>?_,by simpa using h3⟩
 · rw [List.pairwise_map]; exact ha
 · rw [List.mem_map]
   constructor
   · rintro ⟨g,hg,rfl⟩
     obtain ⟨r,hr,rfl⟩:=List.mem_map.1 ((hm g).1 hg)
     rw [vG_of]; exact hr
   · intro hx
     exact ⟨ofR x,(hm _).2 (List.mem_map.2 ⟨x,hx,rfl⟩),vG_of x⟩
theorem ztp:∀ {l m:List Rat},l.Pairwise (· < ·)→m.Pairwise (· < ·)→(∀ x,x∈l↔x∈m)→l=m
 | [],[],_,_,_=>rfl
 | [],y :: m,_,_,h=>absurd ((h y).2 List.mem_cons_self) (by simp)
 | x :: l,[],_,_,h=>absurd ((h x).1 List.mem_cons_self) (by simp)
 | x :: l,y :: m,hl,hm,h=>by
   rw [List.pairwise_cons] at hl hm
   have hxy:x=y:=by
    rcases List.mem_cons.1 ((h x).1 List.mem_cons_self) with h1 | h1
    · exact h1
    · rcases List.mem_cons.1 ((h y).2 List.mem_cons_self) with h2 | h2
      · exact h2.symm
      · have:=hm.1 x h1
        have:=hl.1 y h2
        grind
   subst hxy
   refine congrArg _ (ztp hl.2 hm.2 (fun z=>?_))
   have hz:=h z
   simp only [List.mem_cons] at hz
   constructor
   · intro h1
     rcases hz.1 (.inr h1) with h2 | h2
     · subst h2; have:=hl.1 z h1; grind
     · exact h2
   · intro h1
     rcases hz.2 (.inr h1) with h2 | h2
     · subst h2; have:=hm.1 z h1; grind
     · exact h2
def insA (x:Rat):List Rat→List Rat
 | []=>[x]
 | y :: l=>if x < y then x :: y :: l else if x=y then y :: l else y :: insA x l
theorem zsC (x z:Rat):∀ l,z∈insA x l↔z=x∨z∈l
 | []=>by simp [insA]
 | y :: l=>by
   have ih:=zsC x z l
   unfold insA
   split
   · simp
   · split
     · rename_i h; simp only [List.mem_cons]; grind
     · simp only [List.mem_cons,ih]; grind
theorem insA_asc (x:Rat):∀ l,l.Pairwise (· < ·)→(insA x l).Pairwise (· < ·)
 | [],_=>by simp [insA]
 | y :: l,h=>by
   have h':=List.pairwise_cons.1 h
   have ih:=insA_asc x l h'.2
   unfold insA
   split
   · rename_i hlt
     refine List.pairwise_cons.2 ⟨fun z hz=>?_,h⟩
     rcases List.mem_cons.1 hz with e | hz
     · rw [e]; exact hlt
     · have:=h'.1 z hz; grind
   · split
     · exact h
     · refine List.pairwise_cons.2 ⟨fun z hz=>?_,ih⟩
       rcases (zsC x z l).1 hz with e | hz
       · rw [e]; grind
       · exact h'.1 z hz
theorem insA_len (x:Rat):∀ l,(insA x l).length≤l.length+1
 | []=>by simp [insA]
 | y :: l=>by
   have ih:=insA_len x l
   unfold insA
   split
   · simp
   · split <;> simp <;> omega
theorem insA_at (x:Rat):∀ (l:List Rat) (i:Nat),i≤l.length→(∀ j (h:j < l.length),j < i→l[j] < x)→(∀ j (h:j < l.length),i≤j→x < l[j])→insA x l=l.take i++x :: l.drop i
 | [],i,hi,_,_=>by
   have:i=0:=by simp at hi; omega
   subst this; rfl
 | y :: l,0,_,_,h2=>by
   have:=h2 0 (by simp) (by omega)
   simp only [List.getElem_cons_zero] at this
   unfold insA
   rw [if_pos this]
   rfl
 | y :: l,i+1,hi,h1,h2=>by
   have hy:=h1 0 (by simp) (by omega)
   simp only [List.getElem_cons_zero] at hy
   have ih:=insA_at x l i (by simp at hi; omega) (fun j h hj=>by have:=h1 (j+1) (by simp; omega) (by omega); rwa [List.getElem_cons_succ] at this) (fun j h hj=>by have:=h2 (j+1) (by simp; omega) (by omega); rwa [List.getElem_cons_succ] at this)
   unfold insA
   rw [if_neg (by grind),if_neg (by grind),ih]
   rfl
theorem insA_old (x:Rat):∀ (l:List Rat),l.Pairwise (· < ·)→x∈l→insA x l=l
 | [],_,h=>by simp at h
 | y :: l,hp,h=>by
   have h':=List.pairwise_cons.1 hp
   unfold insA
   by_cases e:x=y
   · rw [if_neg (by grind),if_pos e]
   · have hm:x∈l:=by
      rcases List.mem_cons.1 h with h | h
      · exact absurd h e
      · exact h
     have:=h'.1 x hm
     rw [if_neg (by grind),if_neg e,insA_old x l h'.2 hm]
theorem copy_set {α:Type} (L:List α) (z:α) (i:Nat) (hi:i≤L.length) :
  ((List.take (i+1) (L++[z])++List.take ((L++[z]).length - (i+1)) (List.take ((L++[z]).length - i) (List.drop i (L++[z])))) ++
    List.drop (i+1+Min.min (List.take ((L++[z]).length - i) (List.drop i (L++[z]))).length ((L++[z]).length - (i+1))) (L++[z])).set i z=L.take i++z :: L.drop i:=by
 have hz:(L++[z]).length=L.length+1:=by simp
 have h1:List.drop i (L++[z])=L.drop i++[z]:=List.drop_append_of_le_length hi
 have h2:List.take ((L++[z]).length - i) (List.drop i (L++[z]))=L.drop i++[z]:=by
  rw [h1,hz]; exact List.take_of_length_le (by simp; omega)
 have h3:List.take ((L++[z]).length - (i+1)) (L.drop i++[z])=L.drop i:=by
  rw [hz,List.take_append_of_le_length (by simp)]
  exact List.take_of_length_le (by simp)
 have h4:List.drop (i+1+Min.min (L.drop i++[z]).length ((L++[z]).length - (i+1))) (L++[z])=[]:=by
  apply List.drop_eq_nil_of_le
  rw [hz]; simp; omega
 rw [h2,h3,h4,List.append_nil]
 have h5:List.take (i+1) (L++[z])=L.take i++[(L++[z])[i]'(by simp; omega)]:=by
  rw [List.take_add_one,List.getElem?_eq_getElem (by simp; omega),List.take_append_of_le_length hi]
  rfl
 rw [h5,List.append_assoc,List.set_append_right _ _ (by simp; omega)]
 simp
 rw [Nat.min_eq_left hi,Nat.sub_self]
 rfl
theorem ins_fin (xs:List Rat) (x:Rat) (i:Nat) (hi:i≤xs.length) (hl:xs.length≤1000) :
  zgi (xs.map ofR) (ofR x) (i:Int)=some (zf4 ((xs.take i++x :: xs.drop i).map ofR)):=by
 have e1:w64 ((i:Int)+1)=((i+1:Nat):Int):=by rw [w64_id (by omega) (by omega)]; omega
 have hr:([[I (ofR x).Num,I (ofR x).Den]]:List (List AV))=[zaa (ofR x)]:=rfl
 have rows:List.map zaa (xs.map ofR)++[zaa (ofR x)]=List.map zaa ((xs++[x]).map ofR):=by simp
 have hz:(List.map zaa ((xs++[x]).map ofR)).length=xs.length+1:=by simp
 have hz0:(List.map zaa (xs.map ofR)).length=xs.length:=by simp
 have hc:=copy_set xs x i hi
 have hs:=congrArg (List.map (fun r=>zaa (ofR r))) hc
 refine zqe _ _ _ ?_
 have cm:∀ {β:Type} (W:List Rat) (hW:i < W.length) (K:GRatio→Option β),elemD zad (List.map zaa (W.map ofR)) i K=K (ofR W[i]):=fun W hW K=>elemR (List.getElem?_eq_getElem hW) K
 have fold:∀ Z:List Rat,((List.take (i+1) (List.map zaa (Z.map ofR))++List.take ((List.map zaa (Z.map ofR)).length - (i+1)) (List.take ((List.map zaa (Z.map ofR)).length - i) (List.drop i (List.map zaa (Z.map ofR))))) ++
   List.drop (i+1+Min.min (List.take ((List.map zaa (Z.map ofR)).length - i) (List.drop i (List.map zaa (Z.map ofR)))).length ((List.map zaa (Z.map ofR)).length - (i+1))) (List.map zaa (Z.map ofR))) =
   List.map zaa ((((List.take (i+1) Z++List.take (Z.length - (i+1)) (List.take (Z.length - i) (List.drop i Z)))) ++
   List.drop (i+1+Min.min (List.take (Z.length - i) (List.drop i Z)).length (Z.length - (i+1))) Z).map ofR):=fun Z=>by
  simp only [List.map_append,List.map_take,List.map_drop,List.length_map,List.length_take,List.length_drop]
 have wl:=congrArg List.length hc
 rw [List.length_set] at wl
 rw [hr,e1]
 simp only [Int.toNat_natCast,Nat.zero_add,rows]
 rw [fold]
 generalize hW:((List.take (i+1) (xs++[x])++List.take ((xs++[x]).length - (i+1)) (List.take ((xs++[x]).length - i) (List.drop i (xs++[x])))) ++
   List.drop (i+1+Min.min (List.take ((xs++[x]).length - i) (List.drop i (xs++[x]))).length ((xs++[x]).length - (i+1))) (xs++[x]))=W at hc hs wl
 have wl2:W.length=xs.length+1:=by rw [wl]; simp; omega
 have hset:(List.map zaa (W.map ofR)).set i (zaa (ofR x))=List.map zaa ((xs.take i++x :: xs.drop i).map ofR):=by
  rw [← hc,List.map_set,List.map_set]
 rw [hz,hz0,zab trivial,zab (by omega),zab trivial,zab (by omega),zab (by omega),zab (by omega),zab (by omega),zab (by omega),zab (by omega),zab (by omega),zab (by omega),zab (by omega),zab (by omega),cm W (by omega),zab (by simp; omega),hset]
 rfl
theorem k_ins {xs:List Rat} {x:Rat} (hxs:xs.Pairwise (· < ·)) (hl:xs.length≤1000) (hf:∀ z∈xs,Fit z) (hx:Fit x):∀ (i:Nat),i≤xs.length→(∀ j (h:j < xs.length),i≤j→x < xs[j]) →
  zhD (xs.map ofR) (ofR x) (i:Int)=some (zf4 ((insA x xs).map ofR)):=by
 have elem:∀ {β:Type} (k:Nat) (hk:k < xs.length) (K:GRatio→Option β),elemD zad (List.map zaa (xs.map ofR)) k K=K (ofR xs[k]):=fun k hk K=>elemR (List.getElem?_eq_getElem hk) K
 have len:(List.map zaa (xs.map ofR)).length=xs.length:=by simp
 intro i
 induction i with
 | zero =>
   intro _ hgt
   refine zni _ _ _ ?_
   rw [zaf,if_neg (by omega)]
   refine zlk _ _ _ ?_
   rw [zaf,if_neg (by omega)]
   have e:=insA_at x xs 0 (by omega) (fun j h hj=>by omega) hgt
   rw [e]
   exact ins_fin xs x 0 (by omega) hl
 | succ i ih =>
   intro hi hgt
   have e1:w64 (((i+1:Nat):Int) - 1)=(i:Int):=by rw [w64_id (by omega) (by omega)]; omega
   have hfi:=hf xs[i] (List.getElem_mem (by omega))
   refine zni _ _ _ ?_
   rw [zaf,if_pos (by omega),e1,zab (by omega),zab (by rw [len]; omega),Nat.zero_add,Int.toNat_natCast,elem i (by omega)]
   show callD zd6 (cw zew [aR x,aR xs[i]] []) _=_
   rw [znk _ _ hx hfi,zf9]
   by_cases hlt:x < xs[i]
   · rw [decide_eq_true hlt,zay]
     refine ih (by omega) (fun j h hj=>?_)
     rcases Nat.lt_or_eq_of_le hj with h2 | h2
     · exact hgt j h (by omega)
     · subst h2; exact hlt
   · rw [decide_eq_false hlt,zar]
     refine zlk _ _ _ ?_
     rw [zaf,if_pos (by omega),e1,zab (by omega),zab (by rw [len]; omega),Nat.zero_add,Int.toNat_natCast,elem i (by omega),eqR,zaf]
     by_cases he:xs[i]=x
     · rw [if_pos he,insA_old x xs hxs (he▸List.getElem_mem _),zab rfl]
       rfl
     · rw [if_neg he]
       have e:=insA_at x xs (i+1) (by omega) (fun j h hj=>by
        rcases Nat.lt_or_eq_of_le (Nat.le_of_lt_succ hj) with h2 | h2
        · have:=List.pairwise_iff_getElem.1 hxs j i h (by omega) h2
          grind
        · subst h2; grind) hgt
       rw [e]
       exact ins_fin xs x (i+1) (by omega) hl
end Go.Proofs.YtbhkcgaanaelfaaGreat
namespace Go.Proofs.YtbhkcgaanaelfaaGreat
open Go.Ab Go.Pure Go.Sort
set_option linter.unusedSimpArgs false
set_option linter.unusedVariables false
set_option maxRecDepth 20000
noncomputable abbrev cF (f:List Pt):GCurve:=⟨f.map ofP⟩
theorem zyy (l:List Pt) (hl:l.length≤100000):∀ (k i:Nat) (m:List GPoint),i+k=l.length→m.length=l.length→m.take i=((ex l).take i).map ofP →
  zeu (l.map ofP) (List.map zae m) (i:Int)=some (zfe ((ex l).map ofP)):=by
 intro k
 induction k with
 | zero =>
   intro i m hk hm ht
   refine zi6 _ _ _ ?_
   have hi:i=l.length:=by omega
   subst hi
   rw [List.take_of_length_le (by omega),List.take_of_length_le (by simp [ex])] at ht
   subst ht
   rw [zaf,if_neg (by rw [lenP]; omega),zab (by simp [ex])]
   rfl
 | succ k ih =>
   intro i m hk hm ht
   have hp:l[i]?=some l[i]:=List.getElem?_eq_getElem (by omega)
   have hx:(ex l)[i]?=some (l[i].2,l[i].1):=by unfold ex; rw [List.getElem?_map,hp]; rfl
   have hmi:m[i]?=some m[i]:=List.getElem?_eq_getElem (by omega)
   have hw:w64 ((i:Int)+1)=((i+1:Nat):Int):=by rw [w64_id (by omega) (by omega)]; omega
   refine zi6 _ _ _ ?_
   rw [zaf,if_pos (by rw [lenP]; omega),zab (by omega),Int.toNat_natCast,elemP hp,zab (by omega),zab (by simp; omega),Nat.zero_add,zdV (D:=zaq) hmi,hw]
   have:=ih (i+1) (m.set i (ofP (l[i].2,l[i].1))) (by omega) (by simp [hm]) (by
    rw [List.take_add_one,List.take_set_of_le (Nat.le_refl _),List.getElem?_set_self (by omega),ht,List.take_add_one,hx,List.map_append]
    rfl)
   rw [List.map_set] at this
   exact this
theorem zsg (l:List Pt) (hl:l.length≤100000):cw zd3 [.sl 4 (ptsE l)] []=some (zfe ((ex l).map ofP)):=by
 refine zok _ ?_
 rw [zab rfl,zab (by omega),zab (by rw [lenP]; omega)]
 have:=zyy l hl l.length 0 (List.replicate l.length ⟨⟨0,0⟩,⟨0,0⟩⟩) (by omega) (by simp) (by simp)
 rw [List.map_replicate] at this
 rw [lenP]
 exact this
theorem c_flip (l:List Pt) (hl:l.length≤100000):cw zja [.sl 4 (ptsE l)] []=some (zlg ((ex l).map ofP)):=by
 have key:∀ (k i:Nat),i+k=l.length→zjw (l.map ofP) (ptsE ((ex l).take i)) (i:Int)=some (zlg ((ex l).map ofP)):=by
  intro k
  induction k with
  | zero =>
    intro i hk
    have hi:i=l.length:=by omega
    refine zoH _ _ _ ?_
    rw [zaf,if_neg (by rw [lenP]; omega),List.take_of_length_le (by rw [ex_len]; omega),zab rfl]
    rfl
  | succ k ih =>
    intro i hk
    have hp:l[i]?=some l[i]:=List.getElem?_eq_getElem (by omega)
    have hx:(ex l)[i]?=some (l[i].2,l[i].1):=by unfold ex; rw [List.getElem?_map,hp]; rfl
    have hw:w64 ((i:Int)+1)=((i+1:Nat):Int):=by rw [w64_id (by omega) (by omega)]; omega
    have IH:=ih (i+1) (by omega)
    rw [List.take_add_one,hx] at IH
    refine zoH _ _ _ ?_
    rw [zaf,if_pos (by rw [lenP]; omega),zab (by omega),Int.toNat_natCast,elemP hp,zab (by omega),elemP hp,zab rfl,zab (by rw [lenP]; simp; omega),zab rfl,hw]
    have e:ptsE ((ex l).take i)++[zae ⟨⟨(ofP l[i]).Y.Num,(ofP l[i]).Y.Den⟩,⟨(ofP l[i]).X.Num,(ofP l[i]).X.Den⟩⟩]=ptsE ((ex l).take i++(some (l[i].2,l[i].1)).toList):=by
     simp only [ptsE,List.map_append,Option.toList,List.map_cons,List.map_nil]
     rfl
    rw [e]
    exact IH
 exact zxI _ (key l.length 0 (by omega))
def raws (f g:List Pt):List Rat:=f.map (·.1)++g.map (fun q=>cv (ex f) q.1)
def insAll (rs:List Rat):List Rat:=rs.foldl (fun l x=>insA x l) []
def plc (f g:List Pt):List Rat:=insAll (raws f g)
theorem zl8 (z:Rat):∀ (rs l:List Rat),z∈rs.foldl (fun l x=>insA x l) l↔z∈rs∨z∈l
 | [],l=>by simp
 | x :: rs,l=>by
   rw [List.foldl_cons,zl8 z rs,zsC]
   simp only [List.mem_cons]
   grind
theorem zmg:∀ (rs l:List Rat),l.Pairwise (· < ·)→(rs.foldl (fun l x=>insA x l) l).Pairwise (· < ·)
 | [],l,h=>h
 | x :: rs,l,h=>zmg rs _ (insA_asc x l h)
theorem zp7:∀ (rs l:List Rat),(rs.foldl (fun l x=>insA x l) l).length≤l.length+rs.length
 | [],l=>by simp
 | x :: rs,l=>by
   have:=zp7 rs (insA x l)
   have h2:=insA_len x l
   simp only [List.foldl_cons,List.length_cons]
   omega
theorem ztg (rs:List Rat):(insAll rs).Pairwise (· < ·):=zmg rs [] List.Pairwise.nil
theorem zpj (rs:List Rat):(insAll rs).length≤rs.length:=by
 have h:=zp7 rs []
 show (rs.foldl (fun l x=>insA x l) []).length≤_
 rw [List.length_nil,Nat.zero_add] at h
 exact h
theorem ztB (z:Rat) (rs:List Rat):z∈insAll rs↔z∈rs:=by
 have h:=zl8 z rs []
 simp only [List.not_mem_nil,or_false] at h
 exact h
theorem zo2 (f g:List Pt) (x:Rat):x∈plc f g↔x∈raws f g:=by
 unfold plc insAll
 rw [zl8]
 simp
theorem plc_asc (f g:List Pt):(plc f g).Pairwise (· < ·):=zmg _ _ List.Pairwise.nil
theorem zry (f g:List Pt):(plc f g).length≤f.length+g.length:=by
 have h:=zpj (raws f g)
 have e:(raws f g).length=f.length+g.length:=by simp [raws]
 rw [e] at h
 exact h
theorem two_mem {xs:List Rat} {a b:Rat} (ha:a∈xs) (hb:b∈xs) (h:a≠b):2≤xs.length:=by
 match xs,ha,hb with
 | [x],ha,hb=>simp at ha hb; exact absurd (ha.trans hb.symm) h
 | x :: y :: r,_,_=>simp
structure CpH (f g:List Pt):Prop where
 fa:Asc f
 fl:2≤f.length
 fv:AllF f
 ga:Asc g
 gl:2≤g.length
 gv:AllF g
 len:f.length+g.length < 100
theorem plc_two {f g:List Pt} (h:CpH f g):2≤(plc f g).length:=by
 match f,h with
 | [],h=>have:=h.fl; simp at this
 | [_],h=>have:=h.fl; simp at this
 | p :: q :: r,h =>
   have hlt:=(zft (i:=0) h.fa rfl rfl).1
   refine two_mem (a:=p.1) (b:=q.1) ?_ ?_ (by grind)
   · rw [zo2]; simp [raws]
   · rw [zo2]; simp [raws]
theorem exF {f:List Pt} (h:AllF f):AllF (ex f):=fun p hp=>by
 unfold ex at hp
 obtain ⟨q,hq,rfl⟩:=List.mem_map.1 hp
 exact ⟨(h q hq).2,(h q hq).1⟩
theorem zrs {f g:List Pt} (h:CpH f g) (hb:∀ q∈g,EvF (ex f) q.1):∀ x∈plc f g,Fit x:=fun x hx=>by
 rw [zo2] at hx
 unfold raws at hx
 rcases List.mem_append.1 hx with hx | hx
 · obtain ⟨p,hp,rfl⟩:=List.mem_map.1 hx
   exact (h.fv p hp).1
 · obtain ⟨q,hq,rfl⟩:=List.mem_map.1 hx
   exact (hb q hq).val (by rw [ex_len]; exact h.fl)
def PlF (f g:List Pt) (x:Rat):Prop:=EvF f x∧EvF g (cv f x)
noncomputable def cpR (f g:List Pt):GCurve×Int:=@ite _ ((∀ q∈g,EvF (ex f) q.1)∧∀ x∈plc f g,PlF f g x) (Classical.propDecidable _) (nfR (cps f g (plc f g))) (⟨[]⟩,6)
theorem cpR_ok {f g:List Pt} (h:(∀ q∈g,EvF (ex f) q.1)∧∀ x∈plc f g,PlF f g x):cpR f g=nfR (cps f g (plc f g)):=if_pos h
theorem cpR_no {f g:List Pt} (h:¬ ((∀ q∈g,EvF (ex f) q.1)∧∀ x∈plc f g,PlF f g x)):cpR f g=(⟨[]⟩,6):=if_neg h
theorem zsM {f g:List Pt} (h:CpH f g) (hb:(∀ q∈g,EvF (ex f) q.1)∧∀ x∈plc f g,PlF f g x):Asc (cps f g (plc f g))∧2≤(cps f g (plc f g)).length∧(cps f g (plc f g)).length≤410∧AllF (cps f g (plc f g)):=by
 have h1:=plc_two h
 have h2:=zry f g
 have h3:=h.len
 have hl:(cps f g (plc f g)).length=(plc f g).length:=by simp [cps]
 refine ⟨cps_asc h.fa h.fl h.ga h.gl (plc_asc f g),by omega,by omega,fun p hp=>?_⟩
 unfold cps at hp
 obtain ⟨x,hx,rfl⟩:=List.mem_map.1 hp
 exact ⟨zrs h hb.1 x hx,(hb.2 x hx).2.val h.gl⟩
theorem k_comp3 {f g:List Pt} (h:CpH f g) (hb:∀ q∈g,EvF (ex f) q.1) (l':List GRatio) (hl':l'.take (plc f g).length=(plc f g).map ofR):∀ (k i:Nat) (m:List GPoint),i+k=(plc f g).length→m.length=(plc f g).length→m.take i=((cps f g (plc f g)).take i).map ofP→(∀ j (hj:j < (plc f g).length),j < i→PlF f g (plc f g)[j]) →
  zfc (cF f) (cF g) ((plc f g).length,l') (List.map zae m) (i:Int)=some (zdK (cpR f g)):=by
 have hcl:(cps f g (plc f g)).length=(plc f g).length:=by simp [cps]
 have hx:=zry f g
 have hlen:=h.len
 have hfit:=zrs h hb
 intro k
 induction k with
 | zero =>
   intro i m hk hm ht hok
   have hi:i=(plc f g).length:=by omega
   subst hi
   rw [List.take_of_length_le (by omega),List.take_of_length_le (by omega)] at ht
   subst ht
   have hall:(∀ q∈g,EvF (ex f) q.1)∧∀ x∈plc f g,PlF f g x:=⟨hb,fun x hx=>by
    obtain ⟨j,hj,rfl⟩:=List.mem_iff_getElem.1 hx
    exact hok j hj hj⟩
   obtain ⟨c1,c2,c3,c4⟩:=zsM h hall
   refine zjU _ _ _ _ _ ?_
   dsimp only
   simp only [List.length_replicate,Int.toNat_natCast,List.length_map,Nat.zero_add]
   rw [zaf,if_neg (by omega),zab (by omega),List.take_of_length_le (by simp [hcl]),zn0 (cps f g (plc f g)) c1 c2 c3 c4,zeV,zab (by omega),zab (by omega),cpR_ok hall]
   rfl
 | succ k ih =>
   intro i m hk hm ht hok
   have hi:i < (plc f g).length:=by omega
   have hxf:=hfit _ (List.getElem_mem hi)
   have hle:(plc f g).length≤l'.length:=by
    have:=congrArg List.length hl'
    simp at this
    omega
   have hli:l'[i]?=some (ofR (plc f g)[i]):=by
    have:(l'.take (plc f g).length)[i]?=((plc f g).map ofR)[i]?:=by rw [hl']
    rw [List.getElem?_take,if_pos hi,List.getElem?_map,List.getElem?_eq_getElem hi] at this
    exact this
   have hci:(cps f g (plc f g))[i]?=some ((plc f g)[i],cv g (cv f (plc f g)[i])):=by
    unfold cps
    rw [List.getElem?_map,List.getElem?_eq_getElem hi]
    rfl
   have hmi:m[i]?=some m[i]:=List.getElem?_eq_getElem (by omega)
   refine zjU _ _ _ _ _ ?_
   dsimp only
   simp only [List.length_replicate,Int.toNat_natCast,Nat.zero_add]
   rw [zaf,if_pos (by omega),zab (by omega),zab (by omega),zdV (D:=zad) hli]
   show callD zbs (cw zbu [.sl 4 (ptsE f),aR (plc f g)[i]] []) _=_
   have bad:¬ PlF f g (plc f g)[i]→cpR f g=(⟨[]⟩,6):=fun hn=>cpR_no (fun hh=>hn (hh.2 _ (List.getElem_mem hi)))
   by_cases h1:EvF f (plc f g)[i]
   · rw [zmT f _ h.fa h.fl (by omega) h.fv hxf h1,zbw,brn_f (by rfl)]
     show callD zbs (cw zbu [.sl 4 (ptsE g),aR (cv f (plc f g)[i])] []) _=_
     by_cases h2:EvF g (cv f (plc f g)[i])
     · rw [zmT g _ h.ga h.gl (by omega) h.gv (h1.val h.fl) h2,zbw,brn_f (by rfl),zab (by omega),zab (by omega),zdV (D:=zaq) hmi]
       have hw:w64 ((i:Int)+1)=((i+1:Nat):Int):=by rw [w64_id (by omega) (by omega)]; omega
       rw [hw]
       have:=ih (i+1) (m.set i (ofP ((plc f g)[i],cv g (cv f (plc f g)[i])))) (by omega) (by simp [hm]) (by
        rw [List.take_add_one,List.take_set_of_le (Nat.le_refl _),List.getElem?_set_self (by omega),ht,List.take_add_one,hci,List.map_append]
        rfl) (fun j hj hji=>by
        rcases Nat.lt_or_eq_of_le (Nat.le_of_lt_succ hji) with hlt | heq
        · exact hok j hj hlt
        · subst heq; exact ⟨h1,h2⟩)
       rw [List.map_set] at this
       exact this
     · rw [zoN g _ h.ga h.gl (by omega) h.gv (h1.val h.fl) h2,zbw,bad (fun hh=>h2 hh.2)]
       rfl
   · rw [zoN f _ h.fa h.fl (by omega) h.fv hxf h1,zbw,bad (fun hh=>h1 hh.1)]
     rfl
theorem k_comp2 {f g:List Pt} (h:CpH f g):∀ (k i:Nat) (rs:List Rat),i+k=g.length→rs=f.map (·.1)++(g.take i).map (fun q=>cv (ex f) q.1)→(∀ j (hj:j < g.length),j < i→EvF (ex f) g[j].1) →
  zff (cF f) (cF g) ((ex f).map ofP) (rsE rs) (i:Int)=some (zdK (cpR f g)):=by
 have hlen:=h.len
 intro k
 induction k with
 | zero =>
   intro i rs hk hrs hok
   have hi:i=g.length:=by omega
   subst hi
   rw [List.take_length] at hrs
   have hb:∀ q∈g,EvF (ex f) q.1:=fun q hq=>by
    obtain ⟨j,hj,rfl⟩:=List.mem_iff_getElem.1 hq
    exact hok j hj hj
   have hrl:rs.length=f.length+g.length:=by rw [hrs]; simp
   obtain ⟨ss,s1,s2,s3⟩:=c_sortR rs (fun r hr=>zrs h hb r (by rw [zo2]; unfold raws; rw [← hrs]; exact hr)) (by omega)
   have hsl:ss.length=rs.length:=s2.length_eq
   obtain ⟨ys,l',c1,c2,c3,c4,c5⟩:=c_compactR ss (by omega) s3
   have hy:ys=plc f g:=ztp c3 (plc_asc f g) (fun x=>by
    rw [c4,s2.mem_iff,zo2,hrs]; rfl)
   subst hy
   have hyl:=zry f g
   have hcl:(cps f g (plc f g)).length=(plc f g).length:=by simp [cps]
   refine zj3 _ _ _ _ _ ?_
   have hlg:(List.map zae (cF g).Points).length=g.length:=by simp
   have s1':cw zbM [.row 1000 2 0 (rsE rs).length,.fn zag []] [(1000,⟨2,zac,rsE rs,false⟩)]=some (zdq (ss.map ofR)):=s1
   rw [hlg,zaf,if_neg (by omega),s1',zhl]
   have e:(rsE rs).length=(rsE ss).length:=by simp [hsl]
   have c1':cw zbP [.row 1000 2 0 (rsE ss).length] [(1000,⟨2,zac,rsE ss,false⟩)]=some (zdA ((plc f g).length,l')):=c1
   rw [e,c1',zhL]
   dsimp only
   rw [zab rfl,zab (by omega),Int.toNat_natCast,zab (by omega)]
   have:=k_comp3 h hb l' c2 (plc f g).length 0 (List.replicate (plc f g).length ⟨⟨0,0⟩,⟨0,0⟩⟩) (by omega) (by simp) (by simp) (fun j _ hj=>by omega)
   rw [List.map_replicate] at this
   exact this
 | succ k ih =>
   intro i rs hk hrs hok
   have hi:i < g.length:=by omega
   have hrl:rs.length≤f.length+g.length:=by rw [hrs]; simp; omega
   have hgi:g[i]?=some g[i]:=List.getElem?_eq_getElem hi
   refine zj3 _ _ _ _ _ ?_
   have hlg:(List.map zae (cF g).Points).length=g.length:=by simp
   rw [hlg,zaf,if_pos (by omega),zab (by omega),Int.toNat_natCast,elemP hgi,zab (by omega),List.take_length]
   show callD zbs (cw zbu [.sl 4 (ptsE (ex f)),aR g[i].1] []) _=_
   have gf:=(h.gv g[i] (List.getElem_mem hi)).1
   by_cases h1:EvF (ex f) g[i].1
   · rw [zmT (ex f) g[i].1 (ex_asc h.fa) (by rw [ex_len]; exact h.fl) (by rw [ex_len]; omega) (exF h.fv) gf h1,zbw,brn_f (by rfl),zab rfl,zab (by simp; omega),zab rfl]
     have hw:w64 ((i:Int)+1)=((i+1:Nat):Int):=by rw [w64_id (by omega) (by omega)]; omega
     rw [hw]
     have:=ih (i+1) (rs++[cv (ex f) g[i].1]) (by omega) (by rw [hrs,List.take_add_one,hgi,List.map_append,List.append_assoc]; rfl) (fun j hj hji=>by
       rcases Nat.lt_or_eq_of_le (Nat.le_of_lt_succ hji) with hlt | heq
       · exact hok j hj hlt
       · subst heq; exact h1)
     unfold rsE at this
     rw [List.map_append,List.map_append] at this
     exact this
   · rw [zoN (ex f) g[i].1 (ex_asc h.fa) (by rw [ex_len]; exact h.fl) (by rw [ex_len]; omega) (exF h.fv) gf h1,zbw,cpR_no (fun hh=>h1 (hh.1 _ (List.getElem_mem hi)))]
     rfl
theorem k_comp1 {f g:List Pt} (h:CpH f g):∀ (k i:Nat) (rs:List Rat),i+k=f.length→rs=(f.take i).map (·.1) →
  zfd (cF f) (cF g) (rsE rs) (i:Int)=some (zdK (cpR f g)):=by
 have hlen:=h.len
 intro k
 induction k with
 | zero =>
   intro i rs hk hrs
   have hi:i=f.length:=by omega
   subst hi
   rw [List.take_length] at hrs
   refine zj1 _ _ _ _ ?_
   have hlf:(List.map zae (cF f).Points).length=f.length:=by simp
   rw [hlf,zaf,if_neg (by omega),zsg f (by omega),zhT]
   exact k_comp2 h g.length 0 rs (by omega) (by rw [hrs]; simp) (fun j _ hj=>by omega)
 | succ k ih =>
   intro i rs hk hrs
   have hi:i < f.length:=by omega
   have hrl:rs.length≤f.length:=by rw [hrs]; simp; omega
   have hfi:f[i]?=some f[i]:=List.getElem?_eq_getElem hi
   refine zj1 _ _ _ _ ?_
   have hlf:(List.map zae (cF f).Points).length=f.length:=by simp
   rw [hlf,zaf,if_pos (by omega),zab (by omega),Int.toNat_natCast,elemP hfi,zab rfl,zab (by simp; omega),zab rfl]
   have hw:w64 ((i:Int)+1)=((i+1:Nat):Int):=by rw [w64_id (by omega) (by omega)]; omega
   rw [hw]
   have:=ih (i+1) (rs++[f[i].1]) (by omega) (by rw [hrs,List.take_add_one,hfi,List.map_append]; rfl)
   unfold rsE at this
   rw [List.map_append,List.map_append] at this
   exact this
theorem c_insert {xs:List Rat} {x:Rat} (hxs:xs.Pairwise (· < ·)) (hl:xs.length≤1000) (hf:∀ z∈xs,Fit z) (hx:Fit x) :
  cw zg8 [.row 950 2 0 (List.length (rsE xs)),.agg (zaa (ofR x))] [(950,⟨2,zac,rsE xs,false⟩)]=some (zf4 ((insA x xs).map ofR)):=by
 refine zuv _ _ ?_
 have e:(((List.map zaa (xs.map ofR)).length:Nat):Int)=(xs.length:Int):=by simp
 rw [e]
 exact k_ins hxs hl hf hx xs.length (by omega) (fun j h hj=>by omega)
theorem kr_comp3 {f g:List Pt} (h:CpH f g) (hb:∀ q∈g,EvF (ex f) q.1):∀ (k i:Nat),i+k=(plc f g).length→(∀ j (hj:j < (plc f g).length),j < i→PlF f g (plc f g)[j]) →
  zgO (cF f) (cF g) (rsE (plc f g)) (ptsE ((cps f g (plc f g)).take i)) (i:Int)=some (zfq (cpR f g)):=by
 have hcl:(cps f g (plc f g)).length=(plc f g).length:=by simp [cps]
 have hx:=zry f g
 have hlen:=h.len
 have hfit:=zrs h hb
 intro k
 induction k with
 | zero =>
   intro i hk hok
   have hi:i=(plc f g).length:=by omega
   subst hi
   have hall:(∀ q∈g,EvF (ex f) q.1)∧∀ x∈plc f g,PlF f g x:=⟨hb,fun x hx=>by
    obtain ⟨j,hj,rfl⟩:=List.mem_iff_getElem.1 hx
    exact hok j hj hj⟩
   obtain ⟨c1,c2,c3,c4⟩:=zsM h hall
   refine zmv _ _ _ _ _ ?_
   rw [zaf,if_neg (by rw [lenR]; omega),List.take_of_length_le (by omega),zab (by omega),List.take_length,zpc (cps f g (plc f g)) c1 c2 c3 c4,zjc,zab (by omega),zab (by omega),cpR_ok hall]
   rfl
 | succ k ih =>
   intro i hk hok
   have hi:i < (plc f g).length:=by omega
   have hxf:=hfit _ (List.getElem_mem hi)
   have hxi:(plc f g)[i]?=some (plc f g)[i]:=List.getElem?_eq_getElem hi
   have hci:(cps f g (plc f g))[i]?=some ((plc f g)[i],cv g (cv f (plc f g)[i])):=by
    unfold cps
    rw [List.getElem?_map,hxi]
    rfl
   refine zmv _ _ _ _ _ ?_
   rw [zaf,if_pos (by rw [lenR]; omega),zab (by omega),zab (by rw [lenR]; omega),Nat.zero_add,Int.toNat_natCast,elemR hxi]
   show callD zcy (cw zcA [.sl 4 (ptsE f),aR (plc f g)[i]] []) _=_
   have bad:¬ PlF f g (plc f g)[i]→cpR f g=(⟨[]⟩,6):=fun hn=>cpR_no (fun hh=>hn (hh.2 _ (List.getElem_mem hi)))
   by_cases h1:EvF f (plc f g)[i]
   · rw [zjk f _ h.fa h.fl (by omega) h.fv hxf h1,zbr,brn_f (by rfl)]
     show callD zcy (cw zcA [.sl 4 (ptsE g),aR (cv f (plc f g)[i])] []) _=_
     by_cases h2:EvF g (cv f (plc f g)[i])
     · rw [zjk g _ h.ga h.gl (by omega) h.gv (h1.val h.fl) h2,zbr,brn_f (by rfl),zab (by omega),zab (by rw [lenR]; omega),elemR hxi,zab rfl,zab (by rw [lenP]; simp; omega),zab rfl]
       have hw:w64 ((i:Int)+1)=((i+1:Nat):Int):=by rw [w64_id (by omega) (by omega)]; omega
       rw [hw]
       have IH:=ih (i+1) (by omega) (fun j hj hji=>by
        rcases Nat.lt_or_eq_of_le (Nat.le_of_lt_succ hji) with hlt | heq
        · exact hok j hj hlt
        · subst heq; exact ⟨h1,h2⟩)
       rw [List.take_add_one,hci] at IH
       have e:ptsE ((cps f g (plc f g)).take i)++[zae ⟨⟨(ofR (plc f g)[i]).Num,(ofR (plc f g)[i]).Den⟩,⟨(ofR (cv g (cv f (plc f g)[i]))).Num,(ofR (cv g (cv f (plc f g)[i]))).Den⟩⟩]=ptsE ((cps f g (plc f g)).take i++(some ((plc f g)[i],cv g (cv f (plc f g)[i]))).toList):=by
        simp only [ptsE,List.map_append,Option.toList,List.map_cons,List.map_nil]
        rfl
       dsimp only
       rw [e]
       exact IH
     · rw [zjb g _ h.ga h.gl (by omega) h.gv (h1.val h.fl) h2,zbr,bad (fun hh=>h2 hh.2)]
       rfl
   · rw [zjb f _ h.fa h.fl (by omega) h.fv hxf h1,zbr,bad (fun hh=>h1 hh.1)]
     rfl
theorem kr_comp2 {f g:List Pt} (h:CpH f g):∀ (k i:Nat) (rs:List Rat),i+k=g.length→rs=f.map (·.1)++(g.take i).map (fun q=>cv (ex f) q.1)→(∀ j (hj:j < g.length),j < i→EvF (ex f) g[j].1) →
  zgN (cF f) (cF g) ((ex f).map ofP) (rsE (insAll rs)) (i:Int)=some (zfq (cpR f g)):=by
 have hlen:=h.len
 intro k
 induction k with
 | zero =>
   intro i rs hk hrs hok
   have hi:i=g.length:=by omega
   subst hi
   rw [List.take_length] at hrs
   have hb:∀ q∈g,EvF (ex f) q.1:=fun q hq=>by
    obtain ⟨j,hj,rfl⟩:=List.mem_iff_getElem.1 hq
    exact hok j hj hj
   have hp:insAll rs=plc f g:=by rw [hrs]; rfl
   refine zmx _ _ _ _ _ ?_
   have hlg:(List.map zae (cF g).Points).length=g.length:=by simp
   rw [hlg,zaf,if_neg (by omega),hp]
   have:=kr_comp3 h hb (plc f g).length 0 (by omega) (fun j _ hj=>by omega)
   rw [List.take_zero] at this
   exact this
 | succ k ih =>
   intro i rs hk hrs hok
   have hi:i < g.length:=by omega
   have hrl:rs.length≤f.length+g.length:=by rw [hrs]; simp; omega
   have hil:=zpj rs
   have hgi:g[i]?=some g[i]:=List.getElem?_eq_getElem hi
   have hrf:∀ z∈insAll rs,Fit z:=fun z hz=>by
    have hz2:z∈rs:=(ztB z rs).1 hz
    rw [hrs] at hz2
    rcases List.mem_append.1 hz2 with hz2 | hz2
    · obtain ⟨p,hp,rfl⟩:=List.mem_map.1 hz2; exact (h.fv p hp).1
    · obtain ⟨q,hq,rfl⟩:=List.mem_map.1 hz2
      obtain ⟨j,hj,rfl⟩:=List.mem_iff_getElem.1 hq
      rw [List.length_take] at hj
      rw [List.getElem_take]
      exact (hok j (by omega) (by omega)).val (by rw [ex_len]; exact h.fl)
   refine zmx _ _ _ _ _ ?_
   have hlg:(List.map zae (cF g).Points).length=g.length:=by simp
   rw [hlg,zaf,if_pos (by omega),zab (by omega),Int.toNat_natCast,elemP hgi,zab (by omega),List.take_length]
   show callD zcy (cw zcA [.sl 4 (ptsE (ex f)),aR g[i].1] []) _=_
   have gf:=(h.gv g[i] (List.getElem_mem hi)).1
   by_cases h1:EvF (ex f) g[i].1
   · rw [zjk (ex f) g[i].1 (ex_asc h.fa) (by rw [ex_len]; exact h.fl) (by rw [ex_len]; omega) (exF h.fv) gf h1,zbr,brn_f (by rfl),zab rfl]
     have hw:w64 ((i:Int)+1)=((i+1:Nat):Int):=by rw [w64_id (by omega) (by omega)]; omega
     dsimp only
     rw [c_insert (ztg rs) (by omega) hrf (h1.val (by rw [ex_len]; exact h.fl)),zlW,zab rfl,hw]
     have:=ih (i+1) (rs++[cv (ex f) g[i].1]) (by omega) (by rw [hrs,List.take_add_one,hgi,List.map_append,List.append_assoc]; rfl) (fun j hj hji=>by
       rcases Nat.lt_or_eq_of_le (Nat.le_of_lt_succ hji) with hlt | heq
       · exact hok j hj hlt
       · subst heq; exact h1)
     have e:insAll (rs++[cv (ex f) g[i].1])=insA (cv (ex f) g[i].1) (insAll rs):=by unfold insAll; rw [List.foldl_append]; rfl
     rw [e] at this
     exact this
   · rw [zjb (ex f) g[i].1 (ex_asc h.fa) (by rw [ex_len]; exact h.fl) (by rw [ex_len]; omega) (exF h.fv) gf h1,zbr,cpR_no (fun hh=>h1 (hh.1 _ (List.getElem_mem hi)))]
     rfl
theorem kr_comp1 {f g:List Pt} (h:CpH f g):∀ (k i:Nat) (rs:List Rat),i+k=f.length→rs=(f.take i).map (·.1) →
  zgS (cF f) (cF g) (rsE (insAll rs)) (i:Int)=some (zfq (cpR f g)):=by
 have hlen:=h.len
 intro k
 induction k with
 | zero =>
   intro i rs hk hrs
   have hi:i=f.length:=by omega
   subst hi
   rw [List.take_length] at hrs
   refine zmA _ _ _ _ ?_
   have hlf:(List.map zae (cF f).Points).length=f.length:=by simp
   rw [hlf,zaf,if_neg (by omega),c_flip f (by omega),zmX]
   exact kr_comp2 h g.length 0 rs (by omega) (by rw [hrs]; simp) (fun j _ hj=>by omega)
 | succ k ih =>
   intro i rs hk hrs
   have hi:i < f.length:=by omega
   have hrl:rs.length≤f.length:=by rw [hrs]; simp; omega
   have hil:=zpj rs
   have hfi:f[i]?=some f[i]:=List.getElem?_eq_getElem hi
   have hrf:∀ z∈insAll rs,Fit z:=fun z hz=>by
    have hz2:z∈rs:=(ztB z rs).1 hz
    rw [hrs] at hz2
    obtain ⟨p,hp,rfl⟩:=List.mem_map.1 hz2
    exact (h.fv p ((List.take_sublist _ _).subset hp)).1
   refine zmA _ _ _ _ ?_
   have hlf:(List.map zae (cF f).Points).length=f.length:=by simp
   rw [hlf,zaf,if_pos (by omega),zab (by omega),Int.toNat_natCast,elemP hfi,zab rfl]
   have hw:w64 ((i:Int)+1)=((i+1:Nat):Int):=by rw [w64_id (by omega) (by omega)]; omega
   have ci:=c_insert (ztg rs) (by omega) hrf (h.fv f[i] (List.getElem_mem hi)).1
   have ci':cw zg8 [.row 950 2 0 (List.length (rsE (insAll rs))),.agg (zaa (ofP f[i]).X)] [(950,⟨2,zac,rsE (insAll rs),false⟩)]=some (zf4 ((insA f[i].1 (insAll rs)).map ofR)):=ci
   rw [ci',zlW,zab rfl,hw]
   have:=ih (i+1) (rs++[f[i].1]) (by omega) (by rw [hrs,List.take_add_one,hfi,List.map_append]; rfl)
   have e:insAll (rs++[f[i].1])=insA f[i].1 (insAll rs):=by unfold insAll; rw [List.foldl_append]; rfl
   rw [e] at this
   exact this
end Go.Proofs.YtbhkcgaanaelfaaGreat
namespace Go.Proofs.YtbhkcgaanaelfaaGreat
open Go.Ab Go.Pure Go.Sort
set_option linter.unusedSimpArgs false
set_option linter.unusedVariables false
set_option maxRecDepth 20000
def GoodP (pts:List GPoint):Prop:=∃ l:List Pt,pts=l.map ofP∧AllF l∧Asc l
theorem good_mem {pts:List GPoint} (h:GoodP pts) {p:GPoint} (hp:p∈pts):VR p.X∧VR p.Y:=by
 obtain ⟨l,rfl,h1,_⟩:=h
 obtain ⟨q,hq,rfl⟩:=List.mem_map.1 hp
 exact ⟨fit_VR (h1 q hq).1,fit_VR (h1 q hq).2⟩
theorem VR_point {p:GPoint} (h1:VR p.X) (h2:VR p.Y):∃ q:Pt,Fit q.1∧Fit q.2∧p=ofP q:=by
 obtain ⟨a,ha,ea⟩:=VR_fit h1
 obtain ⟨b,hb,eb⟩:=VR_fit h2
 exact ⟨(a,b),ha,hb,by cases p; simp only at ea eb; rw [ea,eb]; rfl⟩
theorem zu7 {l:List Pt} {q p:Pt} (h1:AllF l) (h2:Asc l) (hq:Fit q.1∧Fit q.2) (hz:∀ p,l.getLast?=some p→p.1 < q.1∧p.2 < q.2):AllF (l++[q])∧Asc (l++[q]):=by
 refine ⟨fun p hp=>?_,?_⟩
 · rcases List.mem_append.1 hp with hp | hp
   · exact h1 p hp
   · rw [List.mem_singleton.1 hp]; exact hq
 · unfold Asc
   rw [List.pairwise_append]
   refine ⟨h2,List.pairwise_singleton _ _,fun p hp z hz'=>?_⟩
   rw [List.mem_singleton.1 hz']
   have hne:l≠[]:=List.ne_nil_of_mem hp
   have hl:=hz _ (List.getLast?_eq_some_getLast hne)
   rcases List.mem_iff_getElem.1 hp with ⟨i,hi,rfl⟩
   rcases Nat.lt_or_ge (i+1) l.length with h | h
   · have hlast:l.getLast hne=l[l.length - 1]:=List.getLast_eq_getElem hne
     rw [hlast] at hl
     have:=List.pairwise_iff_getElem.1 h2 i (l.length - 1) hi (by omega) (by omega)
     grind
   · have hlast:l.getLast hne=l[i]:=by rw [List.getLast_eq_getElem hne]; congr 1; omega
     rw [hlast] at hl
     exact hl
section
variable {pts:List GPoint}
theorem elemG {β:Type} {i:Nat} (hi:i < pts.length) (k:GPoint→Option β):elemD zaq (List.map zae pts) i k=k pts[i]:=
 zdV (D:=zaq) (List.getElem?_eq_getElem hi) k
theorem lenG (l:List GPoint):(List.map zae l).length=l.length:=by simp
theorem zu1 {i:Nat} (hi:i < pts.length) (h:GoodP (pts.take i)):(¬ VR pts[i].X∨¬ VR pts[i].Y→¬ GoodP pts) ∧
  (VR pts[i].X→VR pts[i].Y→∃ q:Pt,Fit q.1∧Fit q.2∧pts[i]=ofP q∧(i=0→GoodP (pts.take (i+1))) ∧
   (0 < i→∃ p:Pt,Fit p.1∧Fit p.2∧(∃ h':i - 1 < pts.length,pts[i - 1]=ofP p)∧((p.1 < q.1∧p.2 < q.2)→GoodP (pts.take (i+1)))∧(¬ (p.1 < q.1∧p.2 < q.2)→¬ GoodP pts))):=by
 refine ⟨fun h1 h2=>?_,fun h1 h2=>?_⟩
 · have:=good_mem h2 (List.getElem_mem hi)
   rcases h1 with h1 | h1
   · exact h1 this.1
   · exact h1 this.2
 · obtain ⟨q,hq1,hq2,eq⟩:=VR_point h1 h2
   obtain ⟨l,hl,hf,ha⟩:=h
   have hll:l.length=i:=by
    have:=congrArg List.length hl
    simp at this
    omega
   have ht:pts.take (i+1)=(l++[q]).map ofP:=by
    rw [List.take_add_one,List.getElem?_eq_getElem hi,hl,eq,List.map_append]; rfl
   refine ⟨q,hq1,hq2,eq,fun h0=>?_,fun h0=>?_⟩
   · have hnil:l=[]:=List.length_eq_zero_iff.1 (by omega)
     obtain ⟨g1,g2⟩:=zu7 (q:=q) (p:=q) hf ha ⟨hq1,hq2⟩ (fun p hp=>by rw [hnil] at hp; cases hp)
     exact ⟨l++[q],ht,g1,g2⟩
   · have hne:l≠[]:=by intro e; rw [e] at hll; simp at hll; omega
     have hp':l[i - 1]?=some l[i - 1]:=List.getElem?_eq_getElem (by omega)
     have hpf:=hf _ (List.getElem_mem (show i - 1 < l.length by omega))
     have epp:pts[i - 1]=ofP l[i - 1]:=by
      have e1:(pts.take i)[i - 1]?=some (ofP l[i - 1]):=by rw [hl,List.getElem?_map,hp']; rfl
      rw [List.getElem?_take,if_pos (by omega),List.getElem?_eq_getElem (by omega)] at e1
      injection e1
     refine ⟨l[i - 1],hpf.1,hpf.2,⟨by omega,epp⟩,fun hlt=>?_,fun hn hg=>?_⟩
     · obtain ⟨g1,g2⟩:=zu7 (q:=q) (p:=q) hf ha ⟨hq1,hq2⟩ (fun p hp=>by
        rw [List.getLast?_eq_getElem?,hll,hp'] at hp
        injection hp with hp
        rw [← hp]; exact hlt)
       exact ⟨l++[q],ht,g1,g2⟩
     · obtain ⟨m,hm,_,hma⟩:=hg
       have hml:m.length=pts.length:=by rw [hm]; simp
       have e1:ofP m[i - 1]=ofP l[i - 1]:=by
        have:pts[i - 1]=ofP m[i - 1]:=by simp only [hm,List.getElem_map]
        rw [← this,epp]
       have e2:ofP m[i]=ofP q:=by
        have:pts[i]=ofP m[i]:=by simp only [hm,List.getElem_map]
        rw [← this,eq]
       have inj:∀ a b:Pt,ofP a=ofP b→a=b:=fun a b e=>by
        have e3:ofR a.1=ofR b.1:=congrArg GPoint.X e
        have e4:ofR a.2=ofR b.2:=congrArg GPoint.Y e
        exact Prod.ext (ofR_inj e3) (ofR_inj e4)
       have:=List.pairwise_iff_getElem.1 hma (i - 1) i (by omega) (by omega) (by omega)
       rw [inj _ _ e1,inj _ _ e2] at this
       exact hn this
theorem k_asc (hl:pts.length≤100000):∀ (k i:Nat),i+k=pts.length→GoodP (pts.take i)→zdx pts (i:Int)=some (zgL (dec (GoodP pts))):=by
 intro k
 induction k with
 | zero =>
   intro i hk hg
   refine zjd _ _ ?_
   rw [List.take_of_length_le (by omega)] at hg
   rw [zaf,if_neg (by rw [lenG]; omega),zbD hg]
   rfl
 | succ k ih =>
   intro i hk hg
   have hi:i < pts.length:=by omega
   have ew:w64 ((i:Int)+1)=((i+1:Nat):Int):=by rw [w64_id (by omega) (by omega)]; omega
   obtain ⟨s1,s2⟩:=zu1 hi hg
   refine zjd _ _ ?_
   rw [zaf,if_pos (by rw [lenG]; omega),zab (by omega),Int.toNat_natCast,elemG hi,zdE,za2,ew]
   by_cases h1:VR pts[i].X
   · rw [decide_eq_true h1,brn_nt,zdE,za2]
     by_cases h2:VR pts[i].Y
     · obtain ⟨q,hq1,hq2,eq,t1,t2⟩:=s2 h1 h2
       rw [decide_eq_true h2,brn_nt,zaf]
       by_cases h0:i=0
       · rw [if_neg (by omega)]
         exact ih (i+1) (by omega) (t1 h0)
       · obtain ⟨p,hp1,hp2,⟨hi',ep⟩,t3,t4⟩:=t2 (by omega)
         have ew2:w64 ((i:Int) - 1)=((i - 1:Nat):Int):=by rw [w64_id (by omega) (by omega)]; omega
         have hl1:=c_LessF p.1 q.1 hp1 hq1
         have hl2:=c_LessF p.2 q.2 hp2 hq2
         have ex1:(pts[i - 1]).X=ofR p.1:=by rw [ep]; rfl
         have ex2:(pts[i - 1]).Y=ofR p.2:=by rw [ep]; rfl
         have ex3:(pts[i]).X=ofR q.1:=by rw [eq]; rfl
         have ex4:(pts[i]).Y=ofR q.2:=by rw [eq]; rfl
         rw [if_pos (by omega),ew2,zab (by omega),Int.toNat_natCast,elemG hi',ex1,ex3,hl1,znv]
         by_cases l1:p.1 < q.1
         · rw [decide_eq_true l1,brn_nt,zab (by omega),elemG hi',ex2,ex4,hl2,znv]
           by_cases l2:p.2 < q.2
           · rw [decide_eq_true l2,brn_nt]
             exact ih (i+1) (by omega) (t3 ⟨l1,l2⟩)
           · rw [decide_eq_false l2,brn_nf,zbB (t4 (fun h=>l2 h.2))]
             rfl
         · rw [decide_eq_false l1,brn_nf,zbB (t4 (fun h=>l1 h.1))]
           rfl
     · rw [decide_eq_false h2,brn_nf,zbB (s1 (.inr h2))]
       rfl
   · rw [decide_eq_false h1,brn_nf,zbB (s1 (.inl h1))]
     rfl
theorem k_ris (hl:pts.length≤100000):∀ (k i:Nat),i+k=pts.length→GoodP (pts.take i)→zf8 pts (i:Int)=some (zlw (dec (GoodP pts∧2≤pts.length))):=by
 have no:¬ GoodP pts→dec (GoodP pts∧2≤pts.length)=false:=fun h=>zbB (fun h2=>h h2.1)
 intro k
 induction k with
 | zero =>
   intro i hk hg
   refine zm2 _ _ ?_
   rw [List.take_of_length_le (by omega)] at hg
   rw [zaf,if_neg (by rw [lenG]; omega),lenG]
   by_cases h2:2≤pts.length
   · rw [zbD ⟨hg,h2⟩,decide_eq_true (by omega)]; rfl
   · rw [zbB (fun h=>h2 h.2),decide_eq_false (by omega)]; rfl
 | succ k ih =>
   intro i hk hg
   have hi:i < pts.length:=by omega
   have ew:w64 ((i:Int)+1)=((i+1:Nat):Int):=by rw [w64_id (by omega) (by omega)]; omega
   obtain ⟨s1,s2⟩:=zu1 hi hg
   refine zm2 _ _ ?_
   rw [zaf,if_pos (by rw [lenG]; omega),zab (by omega)]
   simp only [Int.toNat_natCast]
   rw [elemG hi,zcW,zaC,ew]
   by_cases h1:VR pts[i].X
   · rw [decide_eq_true h1,brn_nt,zab (by omega),elemG hi,zcW,zaC]
     by_cases h2:VR pts[i].Y
     · obtain ⟨q,hq1,hq2,eq,t1,t2⟩:=s2 h1 h2
       rw [decide_eq_true h2,brn_nt,zaf]
       by_cases h0:i=0
       · rw [if_neg (by omega)]
         exact ih (i+1) (by omega) (t1 h0)
       · obtain ⟨p,hp1,hp2,⟨hi',ep⟩,t3,t4⟩:=t2 (by omega)
         have ew2:w64 ((i:Int) - 1)=((i - 1:Nat):Int):=by rw [w64_id (by omega) (by omega)]; omega
         have hl1:=znk p.1 q.1 hp1 hq1
         have hl2:=znk p.2 q.2 hp2 hq2
         have ex1:(pts[i - 1]).X=ofR p.1:=by rw [ep]; rfl
         have ex2:(pts[i - 1]).Y=ofR p.2:=by rw [ep]; rfl
         have ex3:(pts[i]).X=ofR q.1:=by rw [eq]; rfl
         have ex4:(pts[i]).Y=ofR q.2:=by rw [eq]; rfl
         rw [if_pos (by omega),ew2,zab (by omega),Int.toNat_natCast,elemG hi',zab (by omega),elemG hi,ex1,ex3,hl1,zf9]
         by_cases l1:p.1 < q.1
         · rw [decide_eq_true l1,brn_nt,zab (by omega),elemG hi',zab (by omega),elemG hi,ex2,ex4,hl2,zf9]
           by_cases l2:p.2 < q.2
           · rw [decide_eq_true l2,brn_nt]
             exact ih (i+1) (by omega) (t3 ⟨l1,l2⟩)
           · rw [decide_eq_false l2,brn_nf,no (t4 (fun h=>l2 h.2))]
             rfl
         · rw [decide_eq_false l1,brn_nf,no (t4 (fun h=>l1 h.1))]
           rfl
     · rw [decide_eq_false h2,brn_nf,no (s1 (.inr h2))]
       rfl
   · rw [decide_eq_false h1,brn_nf,no (s1 (.inl h1))]
     rfl
end
theorem good_nil:GoodP []:=⟨[],rfl,fun p hp=>absurd hp (List.not_mem_nil),List.Pairwise.nil⟩
def VC (c:GCurve):Prop:=2≤c.Points.length∧c.Points.length≤410∧GoodP c.Points
theorem VC.pts {c:GCurve} (h:VC c):∃ l:List Pt,c=cF l∧AllF l∧Asc l∧2≤l.length∧l.length≤410:=by
 obtain ⟨h1,h2,l,h3,h4,h5⟩:=h
 rw [h3,List.length_map] at h1 h2
 exact ⟨l,by cases c; simp only at h3; rw [h3],h4,h5,h1,h2⟩
theorem vc_of {l:List Pt} (h1:AllF l) (h2:Asc l) (h3:2≤l.length) (h4:l.length≤410):VC (cF l):=⟨by simpa using h3,by simpa using h4,l,rfl,h1,h2⟩
theorem zde (c:GCurve):cw zcY [.agg (zah c)] []=some (zi2 (dec (VC c))):=by
 refine zq1 _ ?_
 rw [lenG,zaf]
 by_cases h1:2≤c.Points.length
 · rw [if_pos (by omega),zaf]
   by_cases h2:c.Points.length≤410
   · have h:=zn6 c.Points (k_asc (pts:=c.Points) (by omega) c.Points.length 0 (by omega) (by rw [List.take_zero]; exact good_nil))
     rw [if_pos (by omega),h,zl9]
     rw [dec_iff (show VC c↔GoodP c.Points from ⟨fun h=>h.2.2,fun h=>⟨h1,h2,h⟩⟩)]
     rfl
   · rw [if_neg (by omega),zbB (fun h=>h2 h.2.1)]; rfl
 · rw [if_neg (by omega),zbB (fun h=>h1 h.1)]; rfl
theorem zdo (c:GCurve):cw zeR [.agg (zah c)] []=some (zl5 (dec (VC c))):=by
 refine zwo _ ?_
 rw [lenG,zaf]
 by_cases h2:c.Points.length≤410
 · have h:=zuJ c.Points (k_ris (pts:=c.Points) (by omega) c.Points.length 0 (by omega) (by rw [List.take_zero]; exact good_nil))
   rw [if_pos (by omega),h,zrh]
   rw [dec_iff (show VC c↔(GoodP c.Points∧2≤c.Points.length) from ⟨fun h=>⟨h.2.2,h.1⟩,fun h=>⟨h.2,h2,h.1⟩⟩)]
   rfl
 · rw [if_neg (by omega),zbB (fun h=>h2 h.2.1)]; rfl
theorem eqGP (x y:GPoint):(x.X.Num == y.X.Num && (x.X.Den == y.X.Den && true) && (x.Y.Num == y.Y.Num && (x.Y.Den == y.Y.Den && true) && true))=dec (x=y):=by
 refine dec_bool ?_
 cases x with | mk a b=>cases y with | mk c d =>
 cases a; cases b; cases c; cases d
 simp [and_assoc]
theorem eq_from {α:Type} (l m:List α) (hl:l.length=m.length) (i:Nat):(∀ j (h:j < l.length),i≤j→l[j]=m[j])→(∀ j (h:j < l.length),j < i→l[j]=m[j])→l=m:=fun h1 h2 =>
 List.ext_getElem hl fun j ha hb=>by
  rcases Nat.lt_or_ge j i with h | h
  · exact h2 j ha h
  · exact h1 j ha h
theorem k_Equal (a b:GCurve) (hl:a.Points.length=b.Points.length) (hn:a.Points.length≤100000):∀ (k i:Nat),i+k=a.Points.length→(∀ j (h:j < a.Points.length),j < i→a.Points[j]=b.Points[j])→zis a b (i:Int)=some (zj6 (dec (a.Points=b.Points)))∧zcH a.Points b.Points (i:Int)=some (zcR (dec (a.Points=b.Points))):=by
 intro k
 induction k with
 | zero =>
   intro i hk hp
   have he:a.Points=b.Points:=eq_from _ _ hl i (fun j h hj=>by omega) hp
   constructor
   · refine zle _ _ _ ?_
     rw [zaf,if_neg (by rw [lenG]; omega),zbD he]; rfl
   · refine zdy _ _ _ ?_
     rw [zaf,if_neg (by rw [lenG]; omega),zbD he]; rfl
 | succ k ih =>
   intro i hk hp
   have hi:i < a.Points.length:=by omega
   have hi2:i < b.Points.length:=by omega
   have ew:w64 ((i:Int)+1)=((i+1:Nat):Int):=by rw [w64_id (by omega) (by omega)]; omega
   by_cases he:a.Points[i]=b.Points[i]
   · have IH:=ih (i+1) (by omega) (fun j h hj=>by
      rcases Nat.lt_or_eq_of_le (Nat.le_of_lt_succ hj) with h2 | h2
      · exact hp j h h2
      · subst h2; exact he)
     constructor
     · refine zle _ _ _ ?_
       rw [zaf,if_pos (by rw [lenG]; omega),zab (by omega),Int.toNat_natCast,elemG hi,zab (by omega),elemG hi2,eqGP,zbD he,brn_nt,ew]
       exact IH.1
     · refine zdy _ _ _ ?_
       rw [zaf,if_pos (by rw [lenG]; omega),zab (by omega),Int.toNat_natCast,elemG hi,zab (by omega),elemG hi2,eqGP,zbD he,brn_nt,ew]
       exact IH.2
   · have hne:¬ a.Points=b.Points:=fun e=>he (by simp only [e])
     constructor
     · refine zle _ _ _ ?_
       rw [zaf,if_pos (by rw [lenG]; omega),zab (by omega),Int.toNat_natCast,elemG hi,zab (by omega),elemG hi2,eqGP,zbB he,brn_nf,zbB hne]
       rfl
     · refine zdy _ _ _ ?_
       rw [zaf,if_pos (by rw [lenG]; omega),zab (by omega),Int.toNat_natCast,elemG hi,zab (by omega),elemG hi2,eqGP,zbB he,brn_nf,zbB hne]
       rfl
theorem zoM (a b:GCurve) (hn:a.Points.length≤100000):cw zfu [.agg (zah a),.agg (zah b)] []=some (zj6 (dec (a.Points=b.Points))):=by
 refine zwt _ _ ?_
 rw [lenG,lenG]
 by_cases hl:a.Points.length=b.Points.length
 · rw [hl,bne_self_eq_false,zar]
   exact (k_Equal a b hl hn a.Points.length 0 (by omega) (fun j _ h=>by omega)).1
 · have:(((a.Points.length:Nat):Int) != ((b.Points.length:Nat):Int))=true:=bne_iff_ne.2 (by omega)
   rw [this,zay,zbB (fun e=>hl (by rw [e]))]
   rfl
theorem c_sEqual (a b:GCurve) (hn:a.Points.length≤100000):cw zdR [.sl 4 (List.map zae a.Points),.sl 4 (List.map zae b.Points)] []=some (zcR (dec (a.Points=b.Points))):=by
 refine zjC _ _ ?_
 rw [lenG,lenG]
 by_cases hl:a.Points.length=b.Points.length
 · rw [hl,bne_self_eq_false,zar]
   exact (k_Equal a b hl hn a.Points.length 0 (by omega) (fun j _ h=>by omega)).2
 · have:(((a.Points.length:Nat):Int) != ((b.Points.length:Nat):Int))=true:=bne_iff_ne.2 (by omega)
   rw [this,zay,zbB (fun e=>hl (by rw [e]))]
   rfl
theorem nfR_len (l:List Pt) (h:2≤l.length):(nfR l).1.Points.length≤l.length:=by
 unfold nfR
 split
 · have:=bn_len l h
   simp [nf]; omega
 · simp
theorem zod (c:GCurve):∃ v:GCurve×Int,cw zcO [.agg (zah c)] []=some (zeW v)∧cw zhb [.agg (zah c)] []=some (zlF v)∧v.1.Points.length≤410:=by
 by_cases h:VC c
 · obtain ⟨l,rfl,h1,h2,h3,h4⟩:=h.pts
   have:=nfR_len l h3
   refine ⟨nfR l,zim _ ?_,zo1 _ ?_,by omega⟩
   · rw [zde,zaL,zbD h,brn_nt]
     show callD zcn (cw zcN [.sl 4 (ptsE l)] []) _=_
     rw [zn0 l h2 h3 h4 h1,zeV]
     rfl
   · rw [zdo,zbt,zbD h,brn_nt]
     show callD zef (cw ze4 [.sl 4 (ptsE l)] []) _=_
     rw [zpc l h2 h3 h4 h1,zjc]
     rfl
 · refine ⟨(⟨[]⟩,1),zim _ ?_,zo1 _ ?_,by simp⟩
   · rw [zde,zaL,zbB h]; rfl
   · rw [zdo,zbt,zbB h]; rfl
theorem both_Same (a b:GCurve):∃ v:Bool,cw zjM [.agg (zah a),.agg (zah b)] []=some (zjF v)∧cw zm7 [.agg (zah a),.agg (zah b)] []=some (znd v):=by
 obtain ⟨v,p1,r1,l1⟩:=zod a
 obtain ⟨w,p2,r2,l2⟩:=zod b
 have E1:=zoM v.1 w.1 (by omega)
 have E2:=c_sEqual v.1 w.1 (by omega)
 by_cases h1:v.2=0
 · by_cases h2:w.2=0
   · refine ⟨dec (v.1.Points=w.1.Points),zjK _ _ ?_,znq _ _ ?_⟩
     · rw [p1,zcx,p2,h1,brn_f (by rfl),zcx,h2,brn_t (by rfl),E2,zih]; rfl
     · rw [r1,zdD,r2,zdD,h1,h2,brn_t (by rfl),brn_t (by rfl),E1,zfA]; rfl
   · refine ⟨false,zjK _ _ ?_,znq _ _ ?_⟩
     · rw [p1,zcx,p2,h1,brn_f (by rfl),zcx,brn_f (beq_false_of_ne h2)]; rfl
     · rw [r1,zdD,r2,zdD,h1,brn_t (by rfl),brn_f (beq_false_of_ne h2)]; rfl
 · refine ⟨false,zjK _ _ ?_,znq _ _ ?_⟩
   · rw [p1,zcx,brn_t (by simpa using h1)]; rfl
   · rw [r1,zdD,r2,zdD,brn_f (beq_false_of_ne h1)]; rfl
theorem zxB (c:GCurve):∃ v:GCurve×Int,cw zhH [.agg (zah c)] []=some (zhA v)∧cw zk6 [.agg (zah c)] []=some (zld v)∧v.1.Points.length≤410:=by
 by_cases h:VC c
 · obtain ⟨l,rfl,h1,h2,h3,h4⟩:=h.pts
   have hx:=nfR_len (ex l) (by rw [ex_len]; exact h3)
   rw [ex_len] at hx
   refine ⟨nfR (ex l),zla _ ?_,znV _ ?_,by omega⟩
   · rw [zde,zaL,zbD h,brn_nt]
     show callD zc9 (cw zd3 [.sl 4 (ptsE l)] []) _=_
     rw [zsg l (by omega),zhT,zab (by omega),List.take_length]
     show callD zcn (cw zcN [.sl 4 (ptsE (ex l))] []) _=_
     rw [zn0 (ex l) (ex_asc h2) (by rw [ex_len]; exact h3) (by rw [ex_len]; exact h4) (exF h1),zeV,zab (by omega)]
     rfl
   · rw [zdo,zbt,zbD h,brn_nt]
     show callD zg9 (cw zja [.sl 4 (ptsE l)] []) _=_
     rw [c_flip l (by omega),zmX,zab (by omega),List.take_length]
     show callD zef (cw ze4 [.sl 4 (ptsE (ex l))] []) _=_
     rw [zpc (ex l) (ex_asc h2) (by rw [ex_len]; exact h3) (by rw [ex_len]; exact h4) (exF h1),zjc,zab (by omega)]
     rfl
 · refine ⟨(⟨[]⟩,1),zla _ ?_,znV _ ?_,by simp⟩
   · rw [zde,zaL,zbB h]; rfl
   · rw [zdo,zbt,zbB h]; rfl
theorem cpR_len {f g:List Pt} (h:CpH f g):(cpR f g).1.Points.length≤410:=by
 unfold cpR
 split
 · rename_i hc
   obtain ⟨_,h2,h3,_⟩:=zsM h hc
   have:=nfR_len _ h2
   omega
 · simp
theorem zwy (a b:GCurve) (hl:a.Points.length+b.Points.length < 100):∃ v:GCurve×Int,cw zhN [.agg (zah a),.agg (zah b)] []=some (zdK v)∧cw zkO [.agg (zah a),.agg (zah b)] []=some (zfq v)∧v.1.Points.length≤410:=by
 by_cases h:VC a
 · by_cases h':VC b
   · obtain ⟨f,rfl,h1,h2,h3,h4⟩:=h.pts
     obtain ⟨g,rfl,g1,g2,g3,g4⟩:=h'.pts
     simp only [List.length_map] at hl
     have hc:CpH f g:=⟨h2,h3,h1,g2,g3,g1,hl⟩
     refine ⟨cpR f g,zhC _ _ ?_,zkM _ _ ?_,cpR_len hc⟩
     · rw [zde,zaL,zbD h,brn_nt,zde,zaL,zbD h',brn_nt]
       exact k_comp1 hc f.length 0 [] (by omega) (by simp)
     · rw [zdo,zbt,zbD h,brn_nt,zdo,zbt,zbD h',brn_nt]
       exact kr_comp1 hc f.length 0 [] (by omega) (by simp)
   · refine ⟨(⟨[]⟩,1),zhC _ _ ?_,zkM _ _ ?_,by simp⟩
     · rw [zde,zaL,zbD h,brn_nt,zde,zaL,zbB h']; rfl
     · rw [zdo,zbt,zbD h,brn_nt,zdo,zbt,zbB h']; rfl
 · refine ⟨(⟨[]⟩,1),zhC _ _ ?_,zkM _ _ ?_,by simp⟩
   · rw [zde,zaL,zbB h]; rfl
   · rw [zdo,zbt,zbB h]; rfl
theorem zu0 (c:GCurve) (x:GRatio):∃ v:GRatio×Int,cw zcs [.agg (zah c),.agg (zaa x)] []=some (zdS v)∧cw ziY [.agg (zah c),.agg (zaa x)] []=some (zkZ v)∧(v.2=0→∃ r,Fit r∧v.1=ofR r):=by
 by_cases h:VC c
 · by_cases hx:VR x
   · obtain ⟨l,rfl,h1,h2,h3,h4⟩:=h.pts
     obtain ⟨r,hr,rfl⟩:=VR_fit hx
     by_cases he:EvF l r
     · refine ⟨(ofR (cv l r),0),zfx _ _ ?_,zk5 _ _ ?_,fun _=>⟨_,he.val h3,rfl⟩⟩
       · rw [zde,zaL,zbD h,brn_nt,zdE,za2,decide_eq_true hx,brn_nt]
         show callD zbs (cw zbu [.sl 4 (ptsE l),aR r] []) _=_
         rw [zmT l r h2 h3 (by omega) h1 hr he,zbw]; rfl
       · rw [zdo,zbt,zbD h,brn_nt,zcW,zaC,decide_eq_true hx,brn_nt]
         show callD zcy (cw zcA [.sl 4 (ptsE l),aR r] []) _=_
         rw [zjk l r h2 h3 (by omega) h1 hr he,zbr]; rfl
     · refine ⟨(⟨0,0⟩,6),zfx _ _ ?_,zk5 _ _ ?_,fun h=>by cases h⟩
       · rw [zde,zaL,zbD h,brn_nt,zdE,za2,decide_eq_true hx,brn_nt]
         show callD zbs (cw zbu [.sl 4 (ptsE l),aR r] []) _=_
         rw [zoN l r h2 h3 (by omega) h1 hr he,zbw]; rfl
       · rw [zdo,zbt,zbD h,brn_nt,zcW,zaC,decide_eq_true hx,brn_nt]
         show callD zcy (cw zcA [.sl 4 (ptsE l),aR r] []) _=_
         rw [zjb l r h2 h3 (by omega) h1 hr he,zbr]; rfl
   · refine ⟨(⟨0,0⟩,1),zfx _ _ ?_,zk5 _ _ ?_,fun h=>by cases h⟩
     · rw [zde,zaL,zbD h,brn_nt,zdE,za2,decide_eq_false hx]; rfl
     · rw [zdo,zbt,zbD h,brn_nt,zcW,zaC,decide_eq_false hx]; rfl
 · refine ⟨(⟨0,0⟩,1),zfx _ _ ?_,zk5 _ _ ?_,fun h=>by cases h⟩
   · rw [zde,zaL,zbB h]; rfl
   · rw [zdo,zbt,zbB h]; rfl
theorem both_Line (s t:GRatio):∃ v:GCurve×Int,cw zfG [.agg (zaa s),.agg (zaa t)] []=some (zgR v)∧cw zm4 [.agg (zaa s),.agg (zaa t)] []=some (znz v)∧v.1.Points.length≤410:=by
 by_cases h1:VR s
 · by_cases h2:VR t
   · by_cases h3:s.Num≤0
     · refine ⟨(⟨[]⟩,2),zeI _ _ ?_,zi1 _ _ ?_,by simp⟩
       · rw [zdE,za2,decide_eq_true h1,brn_nt,zdE,za2,decide_eq_true h2,brn_nt,zaf,if_pos h3]; rfl
       · rw [zcW,zaC,decide_eq_true h1,brn_nt,zcW,zaC,decide_eq_true h2,brn_nt,zaf,if_pos h3]; rfl
     · obtain ⟨a,ha,rfl⟩:=VR_fit h1
       obtain ⟨b,hb,rfl⟩:=VR_fit h2
       have A:=c_AddF a b ha hb
       have R:=zmQ b a hb ha
       rw [Rat.add_comm b a] at R
       by_cases hf:Fit (a+b)
       · refine ⟨(⟨[⟨⟨0,1⟩,ofR b⟩,⟨⟨1,1⟩,ofR (a+b)⟩]⟩,0),zeI _ _ ?_,zi1 _ _ ?_,by simp⟩
         · rw [zdE,za2,decide_eq_true h1,brn_nt,zdE,za2,decide_eq_true h2,brn_nt,zaf,if_neg h3,A,zfm,zdZ hf,brn_f (by rfl),zjg,zbk,zjg,zbk]; rfl
         · rw [zcW,zaC,decide_eq_true h1,brn_nt,zcW,zaC,decide_eq_true h2,brn_nt,zaf,if_neg h3,R,zeE,zdZ hf]; rfl
       · refine ⟨(⟨[]⟩,6),zeI _ _ ?_,zi1 _ _ ?_,by simp⟩
         · rw [zdE,za2,decide_eq_true h1,brn_nt,zdE,za2,decide_eq_true h2,brn_nt,zaf,if_neg h3,A,zfm,zf2 hf]; rfl
         · rw [zcW,zaC,decide_eq_true h1,brn_nt,zcW,zaC,decide_eq_true h2,brn_nt,zaf,if_neg h3,R,zeE,zf2 hf]; rfl
   · refine ⟨(⟨[]⟩,1),zeI _ _ ?_,zi1 _ _ ?_,by simp⟩
     · rw [zdE,za2,decide_eq_true h1,brn_nt,zdE,za2,decide_eq_false h2]; rfl
     · rw [zcW,zaC,decide_eq_true h1,brn_nt,zcW,zaC,decide_eq_false h2]; rfl
 · refine ⟨(⟨[]⟩,1),zeI _ _ ?_,zi1 _ _ ?_,by simp⟩
   · rw [zdE,za2,decide_eq_false h1]; rfl
   · rw [zcW,zaC,decide_eq_false h1]; rfl
end Go.Proofs.YtbhkcgaanaelfaaGreat
