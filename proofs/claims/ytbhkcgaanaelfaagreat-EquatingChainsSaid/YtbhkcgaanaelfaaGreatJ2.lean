/- Distributions of any size: what both programs compute of them. -/
import Derived.Test.YtbhkcgaanaelfaaGreatJ1
import Derived.Test.YtbhkcgaanaelfaaGreatJ0
namespace Go.Proofs.YtbhkcgaanaelfaaGreat
open Go.Ab Go.Pure
set_option linter.unusedSimpArgs false
set_option linter.unusedVariables false
set_option maxRecDepth 20000
def VD (l:List Int):Prop:=1≤l.length∧l.length≤201∧(∀ c∈l,0≤c)∧l.sum≤1048576
noncomputable abbrev aD (l:List Int):AV:=.agg (zae ⟨l⟩)
theorem sum_nn:∀ (l:List Int),(∀ c∈l,0≤c)→0≤l.sum
 | [],_=>by simp
 | c :: l,h=>by
   have:=sum_nn l (fun x hx=>h x (by simp [hx]))
   have:=h c (by simp)
   simp only [List.sum_cons]
   omega
theorem zpa {l:List Int} {i:Nat} (hi:i < l.length):(l.drop i).sum=l[i]+(l.drop (i+1)).sum:=by
 rw [List.drop_eq_getElem_cons hi,List.sum_cons]
theorem zgC (l:List Int) (i:Nat):(l.take i).sum+(l.drop i).sum=l.sum:=by
 rw [← List.sum_append,List.take_append_drop]
theorem zgJ {x:List Int} {i:Nat} (hi:i < x.length):(x.take (i+1)).sum=(x.take i).sum+x[i]:=by
 rw [List.take_add_one,List.getElem?_eq_getElem hi,List.sum_append]; simp
theorem VD.sum {l:List Int} (h:VD l):0≤l.sum∧l.sum≤1048576:=⟨sum_nn l h.2.2.1,h.2.2.2⟩
theorem zoG {l:List Int} (h:∀ c∈l,0≤c) (i:Nat):0≤(l.drop i).sum:=sum_nn _ (fun c hc=>h c (List.mem_of_mem_drop hc))
theorem nn_take {l:List Int} (h:∀ c∈l,0≤c) (i:Nat):0≤(l.take i).sum:=sum_nn _ (fun c hc=>h c (List.mem_of_mem_take hc))
theorem VD.drop {l:List Int} (h:VD l) (i:Nat):0≤(l.drop i).sum∧(l.drop i).sum≤1048576:=by
 have h1:=zoG h.2.2.1 i
 have h2:=nn_take h.2.2.1 i
 have h3:=zgC l i
 have h4:=h.2.2.2
 omega
theorem VD.take {l:List Int} (h:VD l) (i:Nat):0≤(l.take i).sum∧(l.take i).sum≤1048576:=by
 have h1:=zoG h.2.2.1 i
 have h2:=nn_take h.2.2.1 i
 have h3:=zgC l i
 have h4:=h.2.2.2
 omega
theorem VD.at {l:List Int} (h:VD l) {i:Nat} (hi:i < l.length):0≤l[i]∧l[i]≤1048576:=by
 have h1:=h.drop i
 have h2:=h.drop (i+1)
 have h3:=zpa hi
 have h4:=h.2.2.1 _ (List.getElem_mem hi)
 omega
theorem lenI (l:List Int):(List.map zaj l).length=l.length:=List.length_map _
theorem elemI {β:Type} {l:List Int} {i:Nat} (h:i < l.length) (k:Int→Option β):elemD zay (List.map zaj l) i k=k l[i]:=elemD_get (D:=zay) (l:=l) h k
theorem sum_ub:∀ (l:List Int),(∀ c∈l,0≤c∧c≤1048576)→l.sum≤1048576*l.length
 | [],_=>by simp
 | c :: l,h=>by
   have:=sum_ub l (fun x hx=>h x (by simp [hx]))
   have:=h c (by simp)
   simp only [List.sum_cons,List.length_cons]
   omega
theorem k_DV (l:List Int) (hl:l.length≤201):∀ (k i:Nat) (s:Int),i+k=l.length→s=(l.take i).sum→(∀ j (h:j < l.length),j < i→0≤l[j]∧l[j]≤1048576)→ze6 ⟨l⟩ s (i:Int)=some (zfW (dec ((∀ c∈l,0≤c)∧l.sum≤1048576))):=by
 have big:∀ {j:Nat} (hj:j < l.length),¬ l[j]≤1048576→¬ ((∀ c∈l,0≤c)∧l.sum≤1048576):=fun {j} hj h h2=>by
  have h1:=zoG h2.1 (j+1)
  have h3:=nn_take h2.1 j
  have h4:=zgC l j
  have h5:=zpa hj
  have:=h2.2
  omega
 intro k
 induction k with
 | zero =>
   intro i s hi hs hp
   have ht:l.take i=l:=List.take_of_length_le (by omega)
   rw [ht] at hs
   refine zko _ _ _ ?_
   dsimp only
   have hall:∀ c∈l,0≤c:=fun c hc=>by
    obtain ⟨j,hj,rfl⟩:=List.mem_iff_getElem.1 hc
    exact (hp j hj (by omega)).1
   rw [zag,if_neg (by rw [lenI]; omega)]
   by_cases h:s≤1048576
   · rw [zbH ⟨hall,hs▸h⟩,decide_eq_true h]; rfl
   · rw [zbk (fun h2=>h (hs▸h2.2)),decide_eq_false h]; rfl
 | succ k ih =>
   intro i s hi hs hp
   have hil:i < l.length:=by omega
   have e:w64 ((i:Int)+1)=((i+1:Nat):Int):=by rw [w64_id (by omega) (by omega)]; omega
   have b1:0≤s∧s≤1048576*201:=by
    have hm:∀ c∈l.take i,0≤c∧c≤1048576:=fun c hc=>by
     obtain ⟨j,hj,rfl⟩:=List.mem_iff_getElem.1 hc
     rw [List.length_take] at hj
     rw [List.getElem_take]
     exact hp j (by omega) (by omega)
    have h1:=sum_ub _ hm
    have h2:=sum_nn _ (fun c hc=>(hm c hc).1)
    rw [List.length_take] at h1
    rw [hs]; omega
   refine zko _ _ _ ?_
   dsimp only
   rw [zag,if_pos (by rw [lenI]; omega),zaf (by omega),Int.toNat_natCast,elemI hil,zag]
   by_cases h1:l[i] < 0
   · rw [if_pos h1,zbk (fun h=>by have:=h.1 _ (List.getElem_mem hil); omega)]; rfl
   · rw [if_neg h1,zag]
     by_cases h2:1048576 < l[i]
     · rw [if_pos h2,zbk (big hil (by omega))]; rfl
     · rw [if_neg h2,e,w64_id (by omega) (by omega)]
       refine ih (i+1) _ (by omega) (by rw [zgJ hil,hs]) (fun j hj hji=>?_)
       rcases Nat.lt_or_eq_of_le (Nat.le_of_lt_succ hji) with h | h
       · exact hp j hj h
       · subst h; omega
theorem VD_iff (l:List Int) (h1:1≤l.length) (h2:l.length≤201):VD l↔((∀ c∈l,0≤c)∧l.sum≤1048576):=⟨fun h=>⟨h.2.2.1,h.2.2.2⟩,fun h=>⟨h1,h2,h.1,h.2⟩⟩
theorem zjo (l:List Int):cw zbC [aD l] []=some (zfW (dec (VD l))):=by
 refine zpq _ ?_
 rw [lenI,zag]
 by_cases h1:(l.length:Int) < 1
 · rw [if_pos h1,zbk (fun h=>by have:=h.1; omega)]; rfl
 · rw [if_neg h1,zag]
   by_cases h2:201 < (l.length:Int)
   · rw [if_pos h2,zbk (fun h=>by have:=h.2.1; omega)]; rfl
   · rw [if_neg h2,dec_iff (VD_iff l (by omega) (by omega))]
     exact k_DV l (by omega) l.length 0 0 (by omega) (by simp) (fun j _ h=>by omega)
theorem k_rDV (l:List Int) (hl:l.length≤201):∀ (k i:Nat) (s:Int),i+k=l.length→s=(l.take i).sum→(∀ j (h:j < l.length),j < i→0≤l[j])→s≤1048576→ziS ⟨l⟩ s (i:Int)=some (zkz (dec ((∀ c∈l,0≤c)∧l.sum≤1048576))):=by
 intro k
 induction k with
 | zero =>
   intro i s hi hs hp hb
   have ht:l.take i=l:=List.take_of_length_le (by omega)
   rw [ht] at hs
   refine zn9 _ _ _ ?_
   dsimp only
   have hall:∀ c∈l,0≤c:=fun c hc=>by
    obtain ⟨j,hj,rfl⟩:=List.mem_iff_getElem.1 hc
    exact hp j hj (by omega)
   rw [zag,if_neg (by rw [lenI]; omega),zbH ⟨hall,hs▸hb⟩]; rfl
 | succ k ih =>
   intro i s hi hs hp hb
   have hil:i < l.length:=by omega
   have e:w64 ((i:Int)+1)=((i+1:Nat):Int):=by rw [w64_id (by omega) (by omega)]; omega
   have b1:0≤s:=by
    have h2:=sum_nn (l.take i) (fun c hc=>by
     obtain ⟨j,hj,rfl⟩:=List.mem_iff_getElem.1 hc
     rw [List.length_take] at hj
     rw [List.getElem_take]
     exact hp j (by omega) (by omega))
    omega
   refine zn9 _ _ _ ?_
   dsimp only
   rw [zag,if_pos (by rw [lenI]; omega),zaf (by omega),Int.toNat_natCast,elemI hil,zag]
   by_cases h1:l[i] < 0
   · rw [if_pos h1,zbk (fun h=>by have:=h.1 _ (List.getElem_mem hil); omega)]; rfl
   · rw [if_neg h1,zaf (by omega),elemI hil,zag,w64_id (n:=1048576 - s) (by omega) (by omega)]
     by_cases h2:1048576 - s < l[i]
     · rw [if_pos h2,zbk (fun h=>by
        have a1:=zoG h.1 (i+1)
        have a2:=zgC l i
        have a3:=zpa hil
        have:=h.2
        omega)]; rfl
     · rw [if_neg h2,zaf (by omega),elemI hil,e,w64_id (by omega) (by omega)]
       refine ih (i+1) _ (by omega) (by rw [zgJ hil,hs]) (fun j hj hji=>?_) (by omega)
       rcases Nat.lt_or_eq_of_le (Nat.le_of_lt_succ hji) with h | h
       · exact hp j hj h
       · subst h; omega
theorem zfj (l:List Int):cw zgE [aD l] []=some (zkz (dec (VD l))):=by
 refine zvw _ ?_
 rw [lenI,zag]
 by_cases h1:(l.length:Int) < 1
 · rw [if_pos h1,zbk (fun h=>by have:=h.1; omega)]; rfl
 · rw [if_neg h1,zag]
   by_cases h2:201 < (l.length:Int)
   · rw [if_pos h2,zbk (fun h=>by have:=h.2.1; omega)]; rfl
   · rw [if_neg h2,dec_iff (VD_iff l (by omega) (by omega))]
     exact k_rDV l (by omega) l.length 0 0 (by omega) (by simp) (fun j _ h=>by omega) (by omega)
theorem c_Below {l:List Int} (h:VD l) (k:Int):cw zhW [aD l,I k] []=some (zfM (l.take k.toNat).sum):=by
 have hl2:=h.2.1
 have key:∀ (m i:Nat),i+m=l.length→i≤k.toNat→ze8 ⟨l⟩ k (l.take i).sum (i:Int)=some (zfM (l.take k.toNat).sum):=by
  intro m
  induction m with
  | zero =>
    intro i hi hk
    refine zke _ _ _ _ ?_
    dsimp only
    rw [zag,if_neg (by rw [lenI]; omega),List.take_of_length_le (show l.length≤i by omega),List.take_of_length_le (by omega)]
    rfl
  | succ m ih =>
    intro i hi hk
    have e:w64 ((i:Int)+1)=((i+1:Nat):Int):=by rw [w64_id (by omega) (by omega)]; omega
    have ht:=h.take i
    have ha:=h.at (show i < l.length by omega)
    refine zke _ _ _ _ ?_
    dsimp only
    rw [zag,if_pos (by rw [lenI]; omega),zag]
    by_cases hc:(i:Int) < k
    · rw [if_pos hc,zaf (by omega),Int.toNat_natCast,elemI (by omega),e,w64_id (by omega) (by omega),← zgJ]
      exact ih (i+1) (by omega) (by omega)
    · rw [if_neg hc,show k.toNat=i by omega]; rfl
 refine zps _ _ ?_
 rw [zjo,zbJ,zbH h,brn_nt]
 exact key l.length 0 (by omega) (by omega)
theorem c_rBelow {l:List Int} (h:VD l) (k:Int):cw zmz [aD l,I k] []=some (zkE (l.take k.toNat).sum):=by
 have hl2:=h.2.1
 have key:∀ (m i:Nat),i+m=l.length→i≤k.toNat→ziZ ⟨l⟩ k (l.take i).sum (i:Int)=some (zkE (l.take k.toNat).sum):=by
  intro m
  induction m with
  | zero =>
    intro i hi hk
    refine znU _ _ _ _ ?_
    dsimp only
    rw [zag,if_neg (by rw [lenI]; omega),List.take_of_length_le (show l.length≤i by omega),List.take_of_length_le (by omega)]
    rfl
  | succ m ih =>
    intro i hi hk
    have e:w64 ((i:Int)+1)=((i+1:Nat):Int):=by rw [w64_id (by omega) (by omega)]; omega
    have ht:=h.take i
    have ha:=h.at (show i < l.length by omega)
    refine znU _ _ _ _ ?_
    dsimp only
    rw [zag,if_pos (by rw [lenI]; omega),zag]
    by_cases hc:(i:Int) < k
    · rw [if_pos hc,zfj,zbZ,zbH h,zaC,zaf (by omega),Int.toNat_natCast,elemI (by omega),e,w64_id (by omega) (by omega),← zgJ]
      exact ih (i+1) (by omega) (by omega)
    · rw [if_neg hc,show k.toNat=i by omega]; rfl
 exact zv1 _ _ (key l.length 0 (by omega) (by omega))
theorem znc {l:List Int} (h:VD l):cw zc1 [aD l] []=some (zh2 l.sum):=by
 refine zpI _ ?_
 have:=c_Below h (l.length:Int)
 rw [Int.toNat_natCast,List.take_length] at this
 rw [lenI,this,znd]
 rfl
theorem zsZ {l:List Int} (h:VD l):cw zh9 [aD l] []=some (zml l.sum):=by
 refine zwa _ ?_
 have:=c_rBelow h (l.length:Int)
 rw [Int.toNat_natCast,List.take_length] at this
 rw [lenI,this,zrG]
 rfl
theorem c_check (l:List Int):cw zf0 [aD l] []=some (zh1 (@ite (Int×Int) (VD l) (Classical.propDecidable _) (if l.sum=0 then (0,10) else (l.sum,0)) (0,1))):=by
 refine zpU _ ?_
 rw [zjo,zbJ]
 by_cases h:VD l
 · rw [zbH h,brn_nt,znc h,zdv,if_pos h]
   by_cases h0:l.sum=0
   · rw [h0,if_pos rfl]; rfl
   · rw [beq_false_of_ne h0,if_neg h0]; rfl
 · rw [zbk h,if_neg h]; rfl
theorem zsH (l:List Int):cw zky [aD l] []=some (zmn (@ite Int (VD l) (Classical.propDecidable _) (if l.sum=0 then 10 else 0) 1)):=by
 refine zv4 _ ?_
 rw [zfj,zbZ]
 by_cases h:VD l
 · rw [zbH h,brn_nt,zsZ h,zjZ,if_pos h]
   by_cases h0:l.sum=0
   · rw [h0,if_pos rfl]; rfl
   · rw [beq_false_of_ne h0,if_neg h0]; rfl
 · rw [zbk h,if_neg h]; rfl
def sc (i:Nat):List Int→Int
 | []=>0
 | c :: r=>(i:Int)*c+sc (i+1) r
theorem sc_bd:∀ (l:List Int) (i:Nat),(∀ c∈l,0≤c)→i+l.length≤201→0≤sc i l∧sc i l≤201*l.sum
 | [],i,_,_=>by simp [sc]
 | c :: l,i,h,hi=>by
   simp only [List.length_cons] at hi
   have h1:=sc_bd l (i+1) (fun x hx=>h x (by simp [hx])) (by omega)
   have h2:=h c (by simp)
   have h3:(i:Int)*c≤201*c:=Int.mul_le_mul_of_nonneg_right (by omega) h2
   have h4:0≤(i:Int)*c:=Int.mul_nonneg (by omega) h2
   simp only [sc,List.sum_cons]
   omega
theorem sc_drop {l:List Int} {i:Nat} (hi:i < l.length):sc i (l.drop i)=(i:Int)*l[i]+sc (i+1) (l.drop (i+1)):=by
 rw [List.drop_eq_getElem_cons hi]; rfl
theorem VD.sc {l:List Int} (h:VD l) (i:Nat) (hi:i≤l.length):0≤sc i (l.drop i)∧sc i (l.drop i)≤210763776:=by
 have h1:=sc_bd (l.drop i) i (fun c hc=>h.2.2.1 c (List.mem_of_mem_drop hc)) (by rw [List.length_drop]; have:=h.2.1; omega)
 have:=h.drop i
 omega
theorem k_scores {l:List Int} (h:VD l):∀ (k i:Nat) (s:Int),i+k=l.length→0≤s→s+sc i (l.drop i)=sc 0 l→zdC ⟨l⟩ s (i:Int)=some (zd2 (sc 0 l))∧zkB ⟨l⟩ s (i:Int)=some (zl2 (sc 0 l)):=by
 have hl2:=h.2.1
 have hall:=h.sc 0 (by omega)
 rw [List.drop_zero] at hall
 intro k
 induction k with
 | zero =>
   intro i s hi h0 he
   rw [List.drop_eq_nil_of_le (by omega)] at he
   simp only [sc,Int.add_zero] at he
   constructor
   · refine zhv _ _ _ ?_
     dsimp only
     rw [zag,if_neg (by rw [lenI]; omega),he]; rfl
   · refine zp3 _ _ _ ?_
     dsimp only
     rw [zag,if_neg (by rw [lenI]; omega),he]; rfl
 | succ k ih =>
   intro i s hi h0 he
   have e:w64 ((i:Int)+1)=((i+1:Nat):Int):=by rw [w64_id (by omega) (by omega)]; omega
   have ha:=h.at (show i < l.length by omega)
   have hd:=h.sc (i+1) (by omega)
   have hsd:=sc_drop (show i < l.length by omega)
   have m1:(i:Int)*l[i]≤201*l[i]:=Int.mul_le_mul_of_nonneg_right (by omega) ha.1
   have m2:0≤(i:Int)*l[i]:=Int.mul_nonneg (by omega) ha.1
   have IH:=ih (i+1) (s+(i:Int)*l[i]) (by omega) (by omega) (by omega)
   constructor
   · refine zhv _ _ _ ?_
     dsimp only
     rw [zag,if_pos (by rw [lenI]; omega),zaf (by omega),Int.toNat_natCast,elemI (by omega),e,w64_id (n:=(i:Int)*l[i]) (by omega) (by omega),w64_id (by omega) (by omega)]
     exact IH.1
   · refine zp3 _ _ _ ?_
     dsimp only
     rw [zag,if_pos (by rw [lenI]; omega),zaf (by omega),Int.toNat_natCast,elemI (by omega),e,w64_id (n:=(i:Int)*l[i]) (by omega) (by omega),w64_id (by omega) (by omega)]
     exact IH.2
theorem c_scores {l:List Int} (h:VD l):cw zdZ [aD l] []=some (zd2 (sc 0 l)):=
 zmy _ (k_scores h l.length 0 0 (by omega) (by omega) (by simp)).1
theorem zvb {l:List Int} (h:VD l):cw zlY [aD l] []=some (zl2 (sc 0 l)):=
 zyC _ (k_scores h l.length 0 0 (by omega) (by omega) (by simp)).2
def dv (n S:Int) (i:Nat):List Int→Int
 | []=>0
 | c :: r=>c*((((i:Int)*n - S).natAbs:Nat):Int)+dv n S (i+1) r
theorem dv_bd (n S:Int) (hn:0≤n∧n≤1048576) (hS:0≤S∧S≤210763776):∀ (l:List Int) (i:Nat),(∀ c∈l,0≤c)→i+l.length≤201→0≤dv n S i l∧dv n S i l≤210763776*l.sum
 | [],i,_,_=>by simp [dv]
 | c :: l,i,h,hi=>by
   simp only [List.length_cons] at hi
   have h1:=dv_bd n S hn hS l (i+1) (fun x hx=>h x (by simp [hx])) (by omega)
   have h2:=h c (by simp)
   have m1:(i:Int)*n≤201*n:=Int.mul_le_mul_of_nonneg_right (by omega) hn.1
   have m2:0≤(i:Int)*n:=Int.mul_nonneg (by omega) hn.1
   have h3:((((i:Int)*n - S).natAbs:Nat):Int)≤210763776:=by omega
   have h4:c*((((i:Int)*n - S).natAbs:Nat):Int)≤c*210763776:=Int.mul_le_mul_of_nonneg_left h3 h2
   have h5:0≤c*((((i:Int)*n - S).natAbs:Nat):Int):=Int.mul_nonneg h2 (by omega)
   simp only [dv,List.sum_cons]
   omega
theorem dv_drop {n S:Int} {l:List Int} {i:Nat} (hi:i < l.length):dv n S i (l.drop i)=l[i]*((((i:Int)*n - S).natAbs:Nat):Int)+dv n S (i+1) (l.drop (i+1)):=by
 rw [List.drop_eq_getElem_cons hi]; rfl
theorem absI (x:Int) (h1:-1000000000≤x) (h2:x≤1000000000):(if w64 (0 - x) > x then w64 (0 - x) else x)=((x.natAbs:Nat):Int):=by
 rw [w64_id (by omega) (by omega)]
 split <;> omega
def mn (l:List Int):Rat:=mkRat (sc 0 l) l.sum.toNat
def dvn (l:List Int):Rat:=mkRat (dv l.sum (sc 0 l) 0 l) (l.sum*l.sum).toNat
theorem zrv {N:Int} {D:Nat} (h0:0 < D) (hN:N.natAbs≤1152921504606846976) (hD:D≤1152921504606846976):newR N (D:Int)=(ofR (mkRat N D),0)∧Fit (mkRat N D):=by
 have hf:Fit (mkRat N D):=by
  have hne:D≠0:=by omega
  refine ⟨?_,?_⟩
  · rw [Rat.num_mkRat,if_neg hne]
    exact Nat.le_trans (zjK _ _) hN
  · rw [Rat.den_mkRat,if_neg hne]
    exact Nat.le_trans (Nat.div_le_self _ _) hD
 have hs:(!decide (N < 0) == decide ((D:Int) < 0))=decide (N < 0):=by
  rw [decide_eq_false (show ¬ (D:Int) < 0 by omega)]
  cases decide (N < 0) <;> rfl
 refine ⟨?_,hf⟩
 unfold newR
 rw [if_neg (by omega),hs,Int.natAbs_natCast,zrr _ _ _ h0,← sgn_of,zcU hf]
theorem ze7 {l:List Int} (h:VD l) (h0:l.sum≠0):cw zcL [aD l] []=some (ziB (ofR (mn l),0))∧cw zfl [aD l] []=some (zge (ofR (mn l),0))∧Fit (mn l):=by
 have hs:=h.sum
 have hc:=h.sc 0 (by omega)
 rw [List.drop_zero] at hc
 have e:l.sum=((l.sum.toNat:Nat):Int):=by omega
 obtain ⟨n1,n2⟩:=zrv (N:=sc 0 l) (D:=l.sum.toNat) (by omega) (by omega) (by omega)
 have p:=c_NewG (sc 0 l) l.sum (by omega) (by omega) (by omega) (by omega)
 have r:=c_rNewG (sc 0 l) l.sum (by omega) (by omega) (by omega) (by omega)
 have e2:newR (sc 0 l) l.sum=(ofR (mn l),0):=by rw [e,n1]; rfl
 rw [e2] at p r
 refine ⟨zqt _ ?_,zrh _ ?_,n2⟩
 · rw [c_check,zjs,if_pos h,if_neg h0,brn_f (by rfl),c_scores h,zgK,p,ziU]; rfl
 · rw [zsH,zj1,if_pos h,if_neg h0,brn_f (by rfl),zvb h,znP,zsZ h,zjZ,r,znR]; rfl
theorem zk4 {l:List Int} (h:VD l) (h0:l.sum≠0):cw zck [aD l] []=some (zeq (ofR (dvn l),0))∧cw zhi [aD l] []=some (zhc (ofR (dvn l),0))∧Fit (dvn l):=by
 have hs:=h.sum
 have hl2:=h.2.1
 have hc:=h.sc 0 (by omega)
 rw [List.drop_zero] at hc
 have hsq:0 < l.sum*l.sum:=Int.mul_pos (by omega) (by omega)
 have hsq2:l.sum*l.sum≤1048576*1048576:=Int.mul_le_mul hs.2 hs.2 hs.1 (by omega)
 have hD:∀ i,i≤l.length→0≤dv l.sum (sc 0 l) i (l.drop i)∧dv l.sum (sc 0 l) i (l.drop i)≤221001837182976:=fun i hi=>by
  have h1:=dv_bd l.sum (sc 0 l) hs hc (l.drop i) i (fun c hc=>h.2.2.1 c (List.mem_of_mem_drop hc)) (by rw [List.length_drop]; omega)
  have:=h.drop i
  omega
 have hD0:=hD 0 (by omega)
 rw [List.drop_zero] at hD0
 have e:l.sum*l.sum=(((l.sum*l.sum).toNat:Nat):Int):=by omega
 obtain ⟨n1,n2⟩:=zrv (N:=dv l.sum (sc 0 l) 0 l) (D:=(l.sum*l.sum).toNat) (by omega) (by omega) (by omega)
 have p:=c_NewG (dv l.sum (sc 0 l) 0 l) (l.sum*l.sum) (by omega) (by omega) (by omega) (by omega)
 have r:=c_rNewG (dv l.sum (sc 0 l) 0 l) (l.sum*l.sum) (by omega) (by omega) (by omega) (by omega)
 have e2:newR (dv l.sum (sc 0 l) 0 l) (l.sum*l.sum)=(ofR (dvn l),0):=by rw [e,n1]; rfl
 rw [e2] at p r
 have key:∀ (k i:Nat) (s:Int),i+k=l.length→0≤s→s+dv l.sum (sc 0 l) i (l.drop i)=dv l.sum (sc 0 l) 0 l→zd1 ⟨l⟩ (l.sum,0) (sc 0 l) s (i:Int)=some (zeq (ofR (dvn l),0))∧zgn ⟨l⟩ l.sum (sc 0 l) s (i:Int)=some (zhc (ofR (dvn l),0)):=by
  intro k
  induction k with
  | zero =>
    intro i s hi hs0 he
    rw [List.drop_eq_nil_of_le (by omega)] at he
    simp only [dv,Int.add_zero] at he
    constructor
    · refine zh7 _ _ _ _ _ ?_
      dsimp only
      rw [zag,if_neg (by rw [lenI]; omega),he,w64_id (n:=l.sum*l.sum) (by omega) (by omega),p,ziU]; rfl
    · refine zlB _ _ _ _ _ ?_
      dsimp only
      rw [zag,if_neg (by rw [lenI]; omega),he,w64_id (n:=l.sum*l.sum) (by omega) (by omega),r,znR]; rfl
  | succ k ih =>
    intro i s hi hs0 he
    have e1:w64 ((i:Int)+1)=((i+1:Nat):Int):=by rw [w64_id (by omega) (by omega)]; omega
    have ha:=h.at (show i < l.length by omega)
    have hd:=hD (i+1) (by omega)
    have hsd:=dv_drop (n:=l.sum) (S:=sc 0 l) (show i < l.length by omega)
    have m1:(i:Int)*l.sum≤201*l.sum:=Int.mul_le_mul_of_nonneg_right (by omega) hs.1
    have m2:0≤(i:Int)*l.sum:=Int.mul_nonneg (by omega) hs.1
    have h3:((((i:Int)*l.sum - sc 0 l).natAbs:Nat):Int)≤210763776:=by omega
    have h4:l[i]*((((i:Int)*l.sum - sc 0 l).natAbs:Nat):Int)≤l[i]*210763776:=Int.mul_le_mul_of_nonneg_left h3 ha.1
    have h5:0≤l[i]*((((i:Int)*l.sum - sc 0 l).natAbs:Nat):Int):=Int.mul_nonneg ha.1 (by omega)
    have IH:=ih (i+1) (s+l[i]*((((i:Int)*l.sum - sc 0 l).natAbs:Nat):Int)) (by omega) (by omega) (by omega)
    constructor
    · refine zh7 _ _ _ _ _ ?_
      dsimp only
      rw [zag,if_pos (by rw [lenI]; omega),zaf (by omega),Int.toNat_natCast,elemI (by omega),e1]
      rw [w64_id (n:=(i:Int)*l.sum) (by omega) (by omega),w64_id (n:=(i:Int)*l.sum - sc 0 l) (by omega) (by omega),absI _ (by omega) (by omega),w64_id (n:=l[i]*_) (by omega) (by omega),w64_id (by omega) (by omega)]
      exact IH.1
    · refine zlB _ _ _ _ _ ?_
      dsimp only
      rw [zag,if_pos (by rw [lenI]; omega),zaf (by omega),Int.toNat_natCast,elemI (by omega),e1]
      rw [w64_id (n:=(i:Int)*l.sum) (by omega) (by omega),w64_id (n:=(i:Int)*l.sum - sc 0 l) (by omega) (by omega),absI _ (by omega) (by omega),w64_id (n:=l[i]*_) (by omega) (by omega),w64_id (by omega) (by omega)]
      exact IH.2
 have K:=key l.length 0 0 (by omega) (by omega) (by simp)
 refine ⟨znq _ ?_,zry _ ?_,n2⟩
 · rw [c_check,zjs,if_pos h,if_neg h0,brn_f (by rfl),c_scores h,zgK]; exact K.1
 · rw [zsH,zj1,if_pos h,if_neg h0,brn_f (by rfl),zsZ h,zjZ,zvb h,znP]; exact K.2
end Go.Proofs.YtbhkcgaanaelfaaGreat
namespace Go.Pure
set_option linter.unusedVariables false
def Qs (a:Nat→Rat) (i:Nat) (s:Rat):Rat:=(i:Rat) - 1 / 2+(s - a i) / (a (i+1) - a i)
def pw (a b:Nat→Rat) (n m:Nat):Nat→Nat→Nat→List Pt
 | 0,_,_=>[]
 | k+1,i,j=>if i < n∧j < m then
     (Qs a i (if b (j+1) < a (i+1) then b (j+1) else a (i+1)),Qs b j (if b (j+1) < a (i+1) then b (j+1) else a (i+1))) ::
      pw a b n m k (if a (i+1)≤b (j+1) then i+1 else i) (if b (j+1)≤a (i+1) then j+1 else j)
   else []
structure Sh (a:Nat→Rat) (n:Nat):Prop where
 zero:a 0=0
 one:a n=1
 up:∀ i,i < n→a i < a (i+1)
 pos:0 < n
theorem Sh.le {a:Nat→Rat} {n:Nat} (h:Sh a n):∀ (k i:Nat),i+k=n→a i≤1
 | 0,i,hi=>by rw [show i=n by omega,h.one]; exact Rat.le_refl
 | k+1,i,hi=>by have:=h.le k (i+1) (by omega); have:=h.up i (by omega); grind
theorem Sh.le1 {a:Nat→Rat} {n:Nat} (h:Sh a n) {i:Nat} (hi:i≤n):a i≤1:=h.le (n - i) i (by omega)
theorem Qs_up {a:Nat→Rat} {i:Nat} (h:a i < a (i+1)) {s t:Rat} (hst:s < t):Qs a i s < Qs a i t:=by
 unfold Qs
 have h1:0 < (a (i+1) - a i)⁻¹:=Rat.inv_pos.2 (by grind)
 have h2:0 < (t - s)*(a (i+1) - a i)⁻¹:=Rat.mul_pos (by grind) h1
 rw [Rat.div_def,Rat.div_def]
 grind
theorem Qs_0 (a:Nat→Rat) (i:Nat):Qs a i (a i)=(i:Rat) - 1 / 2:=by unfold Qs; rw [Rat.div_def]; grind
theorem Qs_1 {a:Nat→Rat} {i:Nat} (h:a i < a (i+1)):Qs a i (a (i+1))=((i+1:Nat):Rat) - 1 / 2:=by
 unfold Qs
 have h1:a (i+1) - a i≠0:=by grind
 have h2:((i+1:Nat):Rat)=(i:Rat)+1:=by rw [Rat.natCast_add]; rfl
 rw [h2]
 have h3:(a (i+1) - a i) / (a (i+1) - a i)=1:=by grind
 rw [h3]; grind
theorem zrp {a:Nat→Rat} {i:Nat} (h:a i < a (i+1)):Qs a i (a (i+1))=Qs a (i+1) (a (i+1)):=by rw [Qs_1 h,Qs_0]
structure At (a b:Nat→Rat) (n m i j:Nat) (s:Rat):Prop where
 ai:a i≤s
 bj:b j≤s
 an:i < n→s < a (i+1)
 bm:j < m→s < b (j+1)
 im:i≤n
 jm:j≤m
section
variable {a b:Nat→Rat} {n m:Nat} (ha:Sh a n) (hb:Sh b m)
theorem At.both {i j:Nat} {s:Rat} (h:At a b n m i j s) (ha:Sh a n) (hb:Sh b m):i < n↔j < m:=by
 constructor
 · intro hi
   apply Decidable.byContradiction
   intro hj
   have h1:=h.bj
   rw [show j=m by have:=h.jm; omega,hb.one] at h1
   have h2:=h.an hi
   have h3:=ha.le1 (show i+1≤n by omega)
   grind
 · intro hj
   apply Decidable.byContradiction
   intro hi
   have h1:=h.ai
   rw [show i=n by have:=h.im; omega,ha.one] at h1
   have h2:=h.bm hj
   have h3:=hb.le1 (show j+1≤m by omega)
   grind
def nx (a b:Nat→Rat) (i j:Nat):Rat:=if b (j+1) < a (i+1) then b (j+1) else a (i+1)
def ni (a b:Nat→Rat) (i j:Nat):Nat:=if a (i+1)≤b (j+1) then i+1 else i
def nj (a b:Nat→Rat) (i j:Nat):Nat:=if b (j+1)≤a (i+1) then j+1 else j
theorem zoY (k:Nat) {i j:Nat} (hi:i < n) (hj:j < m):pw a b n m (k+1) i j=(Qs a i (nx a b i j),Qs b j (nx a b i j)) :: pw a b n m k (ni a b i j) (nj a b i j):=by
 conv=>lhs; unfold pw
 rw [if_pos ⟨hi,hj⟩]; rfl
theorem At.next {i j:Nat} {s:Rat} (h:At a b n m i j s) (ha:Sh a n) (hb:Sh b m) (hi:i < n) (hj:j < m) :
  At a b n m (ni a b i j) (nj a b i j) (nx a b i j)∧s < nx a b i j∧nx a b i j≤a (i+1)∧nx a b i j≤b (j+1)∧(nx a b i j=a (i+1)∨nx a b i j=b (j+1)):=by
 have h1:=h.an hi
 have h2:=h.bm hj
 have h3:=h.ai
 have h4:=h.bj
 unfold nx ni nj
 rcases Decidable.em (b (j+1) < a (i+1)) with hc | hc
 · rw [if_pos hc,if_neg (by grind),if_pos (by grind)]
   refine ⟨⟨by grind,by grind,fun _=>hc,fun hj'=>hb.up (j+1) hj',by omega,by omega⟩,h2,by grind,by grind,.inr rfl⟩
 · rw [if_neg hc,if_pos (by grind)]
   by_cases he:a (i+1)=b (j+1)
   · rw [if_pos (by grind)]
     refine ⟨⟨by grind,by grind,fun hi'=>ha.up (i+1) hi',fun hj'=>by have:=hb.up (j+1) hj'; grind,by omega,by omega⟩,h1,by grind,by grind,.inl rfl⟩
   · rw [if_neg (by grind)]
     refine ⟨⟨by grind,by grind,fun hi'=>ha.up (i+1) hi',fun hj'=>by grind,by omega,by omega⟩,h1,by grind,by grind,.inl rfl⟩
theorem Qs_same {i j:Nat} {s:Rat} (h:At a b n m i j s) (ha:Sh a n) (hb:Sh b m) (hi:i < n) (hj:j < m) :
  Qs a (ni a b i j) (nx a b i j)=Qs a i (nx a b i j)∧Qs b (nj a b i j) (nx a b i j)=Qs b j (nx a b i j):=by
 have u1:=ha.up i hi
 have u2:=hb.up j hj
 unfold nx ni nj
 rcases Decidable.em (b (j+1) < a (i+1)) with hc | hc
 · rw [if_pos hc,if_neg (by grind),if_pos (by grind)]
   exact ⟨rfl,(zrp u2).symm⟩
 · rw [if_neg hc,if_pos (by grind)]
   by_cases he:a (i+1)=b (j+1)
   · rw [if_pos (by grind)]
     refine ⟨(zrp u1).symm,?_⟩
     rw [he]; exact (zrp u2).symm
   · rw [if_neg (by grind)]
     exact ⟨(zrp u1).symm,rfl⟩
theorem less_steps (i j:Nat):i+j < ni a b i j+nj a b i j:=by
 unfold ni nj
 rcases Decidable.em (b (j+1) < a (i+1)) with hc | hc
 · rw [if_neg (by grind),if_pos (by grind)]; omega
 · rw [if_pos (by grind)]
   split <;> omega
theorem pw_asc:∀ (k i j:Nat) (s:Rat),At a b n m i j s→Sh a n→Sh b m→Asc ((Qs a i s,Qs b j s) :: pw a b n m k i j)
 | 0,i,j,s,h,ha,hb=>List.pairwise_singleton _ _
 | k+1,i,j,s,h,ha,hb=>by
   by_cases hc:i < n∧j < m
   · obtain ⟨hi,hj⟩:=hc
     obtain ⟨h1,h2,h3,h4,h5⟩:=h.next ha hb hi hj
     obtain ⟨q1,q2⟩:=Qs_same h ha hb hi hj
     have ih:=pw_asc k _ _ _ h1 ha hb
     rw [q1,q2] at ih
     rw [zoY k hi hj]
     have l1:=Qs_up (ha.up i hi) h2
     have l2:=Qs_up (hb.up j hj) h2
     refine List.pairwise_cons.2 ⟨fun p hp=>?_,ih⟩
     rcases List.mem_cons.1 hp with hp | hp
     · rw [hp]; exact ⟨l1,l2⟩
     · have:=(List.pairwise_cons.1 ih).1 p hp
       dsimp only at this ⊢
       exact ⟨by grind,by grind⟩
   · have:pw a b n m (k+1) i j=[]:=by unfold pw; rw [if_neg hc]
     rw [this]
     exact List.pairwise_singleton _ _
theorem pw_len:∀ (k i j:Nat),(pw a b n m k i j).length≤k
 | 0,_,_=>Nat.le_refl _
 | k+1,i,j=>by
   unfold pw
   split
   · simp only [List.length_cons]
     have:=pw_len k (if a (i+1)≤b (j+1) then i+1 else i) (if b (j+1)≤a (i+1) then j+1 else j)
     omega
   · simp
def IsP (a b:Nat→Rat) (n m:Nat) (p:Pt):Prop:=∃ (i j:Nat) (s:Rat),i < n∧j < m∧a i≤s∧s≤a (i+1)∧b j≤s∧s≤b (j+1)∧(s=a (i+1)∨s=b (j+1))∧p=(Qs a i s,Qs b j s)
theorem pw_is:∀ (k i j:Nat) (s:Rat),At a b n m i j s→Sh a n→Sh b m→∀ p∈pw a b n m k i j,IsP a b n m p
 | 0,i,j,s,h,ha,hb,p,hp=>by cases hp
 | k+1,i,j,s,h,ha,hb,p,hp=>by
   by_cases hc:i < n∧j < m
   · obtain ⟨hi,hj⟩:=hc
     obtain ⟨h1,h2,h3,h4,h5⟩:=h.next ha hb hi hj
     rw [zoY k hi hj] at hp
     rcases List.mem_cons.1 hp with hp | hp
     · exact ⟨i,j,nx a b i j,hi,hj,by have:=h.ai; grind,h3,by have:=h.bj; grind,h4,h5,hp⟩
     · exact pw_is k _ _ _ h1 ha hb p hp
   · have:pw a b n m (k+1) i j=[]:=by unfold pw; rw [if_neg hc]
     rw [this] at hp; cases hp
def IsS (a b:Nat→Rat) (n m:Nat) (t:Rat):Prop:=∃ (i j:Nat),i < n∧j < m∧t=(a (i+1) - a i) / (b (j+1) - b j)
theorem Qs_sl {i j:Nat} {s t:Rat} (ha:a i < a (i+1)) (hb:b j < b (j+1)) (h:s < t):sl (Qs a i s,Qs b j s) (Qs a i t,Qs b j t)=(a (i+1) - a i) / (b (j+1) - b j):=by
 unfold sl Qs
 dsimp only
 have h1:a (i+1) - a i≠0:=by grind
 have h2:b (j+1) - b j≠0:=by grind
 have h3:t - s≠0:=by grind
 generalize a (i+1) - a i=A at *
 generalize b (j+1) - b j=B at *
 have e1:(j:Rat) - 1 / 2+(t - b j) / B - ((j:Rat) - 1 / 2+(s - b j) / B)=(t - s) / B:=by rw [Rat.div_def,Rat.div_def,Rat.div_def,Rat.div_def]; grind
 have e2:(i:Rat) - 1 / 2+(t - a i) / A - ((i:Rat) - 1 / 2+(s - a i) / A)=(t - s) / A:=by rw [Rat.div_def,Rat.div_def,Rat.div_def,Rat.div_def]; grind
 rw [e1,e2]
 grind
theorem pw_sl:∀ (k i j:Nat) (s:Rat),At a b n m i j s→Sh a n→Sh b m→∀ (c:Nat) (p q:Pt),((Qs a i s,Qs b j s) :: pw a b n m k i j)[c]?=some p→((Qs a i s,Qs b j s) :: pw a b n m k i j)[c+1]?=some q→IsS a b n m (sl p q)
 | 0,i,j,s,h,ha,hb,c,p,q,hp,hq=>by simp [pw] at hq
 | k+1,i,j,s,h,ha,hb,c,p,q,hp,hq=>by
   by_cases hc:i < n∧j < m
   · obtain ⟨hi,hj⟩:=hc
     obtain ⟨h1,h2,h3,h4,h5⟩:=h.next ha hb hi hj
     obtain ⟨q1,q2⟩:=Qs_same h ha hb hi hj
     have ih:=pw_sl k _ _ _ h1 ha hb
     rw [q1,q2] at ih
     rw [zoY k hi hj] at hp hq
     cases c with
     | zero =>
       simp only [List.getElem?_cons_zero,Option.some.injEq] at hp
       simp only [List.getElem?_cons_succ,List.getElem?_cons_zero,Option.some.injEq] at hq
       rw [← hp,← hq]
       exact ⟨i,j,hi,hj,Qs_sl (ha.up i hi) (hb.up j hj) h2⟩
     | succ c =>
       rw [List.getElem?_cons_succ] at hp hq
       exact ih c p q hp hq
   · have:pw a b n m (k+1) i j=[]:=by unfold pw; rw [if_neg hc]
     rw [this] at hq; simp at hq
end
def pts (a b:Nat→Rat) (n m:Nat):List Pt:=(-1 / 2,-1 / 2) :: pw a b n m (n+m) 0 0
theorem at0 {a b:Nat→Rat} {n m:Nat} (ha:Sh a n) (hb:Sh b m):At a b n m 0 0 0:=
 ⟨by rw [ha.zero]; exact Rat.le_refl,by rw [hb.zero]; exact Rat.le_refl,fun h=>by have:=ha.up 0 h; rw [ha.zero] at this; exact this,fun h=>by have:=hb.up 0 h; rw [hb.zero] at this; exact this,by omega,by omega⟩
theorem Qs00 {a:Nat→Rat} {n:Nat} (ha:Sh a n):Qs a 0 0=-1 / 2:=by
 have:=Qs_0 a 0
 rw [ha.zero] at this
 rw [this]
 have:((0:Nat):Rat)=0:=rfl
 rw [this]
 grind
theorem pts_eq {a b:Nat→Rat} {n m:Nat} (ha:Sh a n) (hb:Sh b m):pts a b n m=(Qs a 0 0,Qs b 0 0) :: pw a b n m (n+m) 0 0:=by
 unfold pts; rw [Qs00 ha,Qs00 hb]
theorem pts_asc {a b:Nat→Rat} {n m:Nat} (ha:Sh a n) (hb:Sh b m):Asc (pts a b n m):=by
 rw [pts_eq ha hb]; exact pw_asc _ _ _ _ (at0 ha hb) ha hb
theorem pts_len {a b:Nat→Rat} {n m:Nat} (ha:Sh a n) (hb:Sh b m):2≤(pts a b n m).length∧(pts a b n m).length≤n+m+1:=by
 have h1:=pw_len (a:=a) (b:=b) (n:=n) (m:=m) (n+m) 0 0
 unfold pts
 simp only [List.length_cons]
 refine ⟨?_,by omega⟩
 obtain ⟨k,hk⟩:∃ k,n+m=k+1:=⟨n+m - 1,by have:=ha.pos; omega⟩
 rw [hk,zoY k ha.pos hb.pos]
 simp
theorem pts_sl {a b:Nat→Rat} {n m:Nat} (ha:Sh a n) (hb:Sh b m) (c:Nat) (p q:Pt) (hp:(pts a b n m)[c]?=some p) (hq:(pts a b n m)[c+1]?=some q):IsS a b n m (sl p q):=by
 rw [pts_eq ha hb] at hp hq
 exact pw_sl _ _ _ _ (at0 ha hb) ha hb c p q hp hq
theorem pts_is {a b:Nat→Rat} {n m:Nat} (ha:Sh a n) (hb:Sh b m):∀ p∈pts a b n m,p=(-1 / 2,-1 / 2)∨IsP a b n m p:=by
 intro p hp
 unfold pts at hp
 rcases List.mem_cons.1 hp with hp | hp
 · exact .inl hp
 · exact .inr (pw_is _ _ _ _ (at0 ha hb) ha hb p hp)
end Go.Pure
namespace Go.Proofs.YtbhkcgaanaelfaaGreat
open Go.Ab Go.Pure
set_option linter.unusedSimpArgs false
set_option linter.unusedVariables false
set_option maxRecDepth 20000
theorem frac_lt (A B N M:Int) (hN:0 < N) (hM:0 < M):(A:Rat) / (N:Rat) < (B:Rat) / (M:Rat)↔A*M < B*N:=by
 have h1:(0:Rat) < (N:Rat):=Rat.intCast_lt_intCast.2 hN
 have h2:(0:Rat) < (M:Rat):=Rat.intCast_lt_intCast.2 hM
 rw [Rat.div_lt_iff h1]
 have e:(B:Rat) / (M:Rat)*(N:Rat)=((B:Rat)*(N:Rat)) / (M:Rat):=by grind
 rw [e,Rat.lt_div_iff h2,← Rat.intCast_mul,← Rat.intCast_mul,Rat.intCast_lt_intCast]
theorem frac_le (A B N M:Int) (hN:0 < N) (hM:0 < M):(A:Rat) / (N:Rat)≤(B:Rat) / (M:Rat)↔A*M≤B*N:=by
 have:=frac_lt B A M N hM hN
 constructor
 · intro h
   apply Int.not_lt.1
   intro hc
   have:=this.2 hc
   grind
 · intro h
   apply Rat.not_lt.1
   intro hc
   have:=this.1 hc
   omega
theorem ratNe {N:Int} (h:0 < N):(N:Rat)≠0:=by
 intro hc
 have:(N:Rat)=((0:Int):Rat):=hc
 have:=Rat.intCast_inj.1 this
 omega
def FD (x:List Int):Prop:=VD x∧∀ c∈x,1≤c
theorem FD.sum {x:List Int} (h:FD x):1≤x.sum∧x.sum≤1048576:=by
 have h1:=h.1.1
 have h2:=h.1.sum
 have h3:=zpa (l:=x) (i:=0) (by omega)
 have h4:=h.2 x[0] (List.getElem_mem (by omega))
 have h5:=h.1.drop (0+1)
 rw [List.drop_zero] at h3
 omega
theorem FD.at {x:List Int} (h:FD x) {i:Nat} (hi:i < x.length):1≤x[i]∧x[i]≤1048576:=⟨h.2 _ (List.getElem_mem hi),(h.1.at hi).2⟩
theorem FD.take {x:List Int} (h:FD x) (i:Nat):0≤(x.take i).sum∧(x.take i).sum≤x.sum:=by
 have h1:=h.1.take i
 have h2:=h.1.drop i
 have:=zgC x i
 omega
def shr (x:List Int) (i:Nat):Rat:=((x.take i).sum:Rat) / (x.sum:Rat)
theorem FD.sh {x:List Int} (h:FD x):Sh (shr x) x.length:=by
 have hs:=h.sum
 have hne:=ratNe (show 0 < x.sum by omega)
 refine ⟨?_,?_,fun i hi=>?_,h.1.1⟩
 · unfold shr
   rw [List.take_zero]
   show ((0:Int):Rat) / _=0
   show (0:Rat) / _=0
   rw [Rat.div_def]; grind
 · unfold shr
   rw [List.take_length]
   grind
 · unfold shr
   rw [frac_lt _ _ _ _ (by omega) (by omega),zgJ hi]
   have:=h.at hi
   exact Int.mul_lt_mul_of_pos_right (by omega) (by omega)
theorem shr_diff {x:List Int} (h:FD x) {i:Nat} (hi:i < x.length):shr x (i+1) - shr x i=(x[i]:Rat) / (x.sum:Rat):=by
 unfold shr
 rw [zgJ hi,Rat.intCast_add]
 have hne:=ratNe (show 0 < x.sum by have:=h.sum; omega)
 grind
theorem Qs_frac {x:List Int} (h:FD x) {i:Nat} (hi:i < x.length) (p w:Int) (hw:0 < w) :
  Qs (shr x) i ((p:Rat) / (w:Rat))=mkRat (2*i - 1) 2+mkRat (p*x.sum - (x.take i).sum*w) (w*x[i]).toNat:=by
 have hs:=h.sum
 have ha:=h.at hi
 have hpos:0 < w*x[i]:=Int.mul_pos hw (by omega)
 have e1:(((w*x[i]).toNat:Nat):Rat)=(w:Rat)*(x[i]:Rat):=by
  rw [← Rat.intCast_mul]
  have:(((w*x[i]).toNat:Nat):Int)=w*x[i]:=by omega
  rw [← this]; rfl
 have e2:((2*(i:Int) - 1:Int):Rat)=2*(i:Rat) - 1:=by
  rw [Rat.intCast_sub,Rat.intCast_mul]; rfl
 have e3:((p*x.sum - (x.take i).sum*w:Int):Rat)=(p:Rat)*(x.sum:Rat) - ((x.take i).sum:Rat)*(w:Rat):=by
  rw [Rat.intCast_sub,Rat.intCast_mul,Rat.intCast_mul]
 have e4:((2:Nat):Rat)=2:=rfl
 rw [Rat.mkRat_eq_div,Rat.mkRat_eq_div,e1,e2,e3,e4]
 unfold Qs
 rw [shr_diff h hi]
 unfold shr
 have n1:=ratNe (show 0 < x.sum by omega)
 have n2:=ratNe hw
 have n3:=ratNe (show 0 < x[i] by omega)
 generalize (x.sum:Rat)=N at *
 generalize (w:Rat)=W at *
 generalize (x[i]:Rat)=c at *
 generalize ((x.take i).sum:Rat)=X at *
 generalize (p:Rat)=P at *
 generalize (i:Rat)=I at *
 have n4:c / N≠0:=by
  intro hc
  have:c=c / N*N:=by grind
  grind
 have f1:(P / W - X / N) / (c / N)=(P*N - X*W) / (W*c):=by
  have g1:(P / W - X / N)*(W*c)=(P*N - X*W)*(c / N):=by grind
  have g2:W*c≠0:=by
   intro hc
   rcases Rat.mul_eq_zero.1 hc with hc | hc
   · exact n2 hc
   · exact n3 hc
  grind
 rw [f1]
 grind
theorem bd_mk {N:Int} {D n d:Nat} (h0:0 < D) (h1:N.natAbs≤2 ^ n) (h2:D≤2 ^ d):Bd n d (mkRat N D):=by
 have hne:D≠0:=by omega
 constructor
 · rw [Rat.num_mkRat,if_neg hne]
   exact Nat.le_trans (zjK _ _) h1
 · rw [Rat.den_mkRat,if_neg hne]
   exact Nat.le_trans (Nat.div_le_self _ _) h2
theorem bd_fit {n d:Nat} {r:Rat} (h:Bd n d r) (h1:n≤60) (h2:d≤60):Fit r:=(h.mono h1 h2:Bd 60 60 r)
structure QB (x:List Int) (i:Nat) (p w:Int):Prop where
 m1:p*x.sum≤1099511627776
 m2:0≤p*x.sum
 m3:(x.take i).sum*w≤1099511627776
 m4:0≤(x.take i).sum*w
 m5:1≤w*(x[i]?.getD 0)
 m6:w*(x[i]?.getD 0)≤1099511627776
theorem qb {x:List Int} (h:FD x) {i:Nat} (hi:i < x.length) {p w:Int} (hw:0 < w) (hw2:w≤1048576) (hp0:0≤p) (hp2:p≤1048576):QB x i p w:=by
 have hs:=h.sum
 have ha:=h.at hi
 have ht:=h.take i
 have e:x[i]?.getD 0=x[i]:=by rw [List.getElem?_eq_getElem hi]; rfl
 have m1:p*x.sum≤1048576*1048576:=Int.mul_le_mul hp2 hs.2 (by omega) (by omega)
 have m2:0≤p*x.sum:=Int.mul_nonneg hp0 (by omega)
 have m3:(x.take i).sum*w≤1048576*1048576:=Int.mul_le_mul (by omega) hw2 (by omega) (by omega)
 have m4:0≤(x.take i).sum*w:=Int.mul_nonneg ht.1 (by omega)
 have m5:0 < w*x[i]:=Int.mul_pos hw (by omega)
 have m6:w*x[i]≤1048576*1048576:=Int.mul_le_mul hw2 ha.2 (by omega) (by omega)
 exact ⟨by omega,m2,by omega,m4,by rw [e]; omega,by rw [e]; omega⟩
theorem Qs_fit {x:List Int} (h:FD x) {i:Nat} (hi:i < x.length) {p w:Int} (hw:0 < w) (hw2:w≤1048576) (hp0:0≤p) (hp2:p≤1048576):Fit (Qs (shr x) i ((p:Rat) / (w:Rat)))∧Fit (mkRat (2*i - 1) 2)∧Fit (mkRat (p*x.sum - (x.take i).sum*w) (w*x[i]).toNat):=by
 obtain ⟨m1,m2,m3,m4,m5,m6⟩:=qb h hi hw hw2 hp0 hp2
 have e:x[i]?.getD 0=x[i]:=by rw [List.getElem?_eq_getElem hi]; rfl
 rw [e] at m5 m6
 have hl:=h.1.2.1
 have b1:Bd 9 1 (mkRat (2*(i:Int) - 1) 2):=bd_mk (by omega) (by show _≤512; omega) (by show _≤2; omega)
 have b2:Bd 40 40 (mkRat (p*x.sum - (x.take i).sum*w) (w*x[i]).toNat):=bd_mk (by omega) (by show _≤1099511627776; omega) (by show _≤1099511627776; omega)
 refine ⟨?_,bd_fit b1 (by omega) (by omega),bd_fit b2 (by omega) (by omega)⟩
 rw [Qs_frac h hi p w hw]
 exact bd_fit (b1.add b2 (N:=50) (D:=41) (by omega) (by omega) (by omega)) (by omega) (by omega)
def bel (x:List Int):List Int:=(List.range (x.length+1)).map fun i=>(x.take i).sum
theorem zoZ (x:List Int):(bel x).length=x.length+1:=by simp [bel]
theorem bel_at (x:List Int) {i:Nat} (hi:i < (bel x).length):(bel x)[i]=(x.take i).sum:=by simp [bel]
theorem k_sums {x:List Int} (h:FD x):∀ (k i:Nat),i+k=x.length→zhb ⟨x⟩ (List.map zaj ((List.range (i+1)).map fun i=>(x.take i).sum)) (i:Int)=some (ziP (bel x)):=by
 have hl:=h.1.2.1
 intro k
 induction k with
 | zero =>
   intro i hi
   refine zmF _ _ _ ?_
   dsimp only
   rw [zag,if_neg (by show ¬ (i:Int) < ((List.map zaj x).length:Int); rw [lenI]; omega),zaf rfl,show i=x.length by omega]
   rfl
 | succ k ih =>
   intro i hi
   have e:w64 ((i:Int)+1)=((i+1:Nat):Int):=by rw [w64_id (by omega) (by omega)]; omega
   have ht:=h.take i
   have ha:=h.at (show i < x.length by omega)
   have hs:=h.sum
   refine zmF _ _ _ ?_
   dsimp only
   rw [zag,if_pos (by show (i:Int) < ((List.map zaj x).length:Int); rw [lenI]; omega),zaf (by omega),Int.toNat_natCast]
   show elemD zay (List.map zaj x) i _=_
   rw [elemI (by omega),zaf (by omega),zaf (by rw [lenI]; simp; omega),Nat.zero_add,elemI (i:=i) (by simp)]
   have eg:((List.range (i+1)).map fun i=>(x.take i).sum)[i]'(by simp)=(x.take i).sum:=by simp
   rw [eg,zaf rfl,zaf (by rw [lenI]; simp; omega),zaf rfl,e,w64_id (by omega) (by omega),← zgJ (show i < x.length by omega),← ih (i+1) (by omega)]
   congr 1
   rw [List.range_succ (n:=i+1),List.map_append,List.map_append]
   rfl
theorem c_sums {x:List Int} (h:FD x):cw ziR [aD x] []=some (ziP (bel x)):=by
 refine zt0 _ ?_
 rw [zaf rfl]
 exact k_sums h x.length 0 (by omega)
theorem zpl {x:List Int} (h:FD x) {i:Nat} (hi:i < x.length) (p w:Int) (hw:0 < w) (hw2:w≤1048576) (hp0:0≤p) (hp2:p≤1048576) :
  cw zeF [.sl 1 (List.map zaj (bel x)),I (i:Int),I p,I w] []=some (zj0 (ofR (Qs (shr x) i ((p:Rat) / (w:Rat))),0)):=by
 have hl:=h.1.2.1
 have hs:=h.sum
 have ha:=h.at hi
 have ht:=h.take i
 obtain ⟨m1,m2,m3,m4,m5,m6⟩:=qb h hi hw hw2 hp0 hp2
 have eg:x[i]?.getD 0=x[i]:=by rw [List.getElem?_eq_getElem hi]; rfl
 rw [eg] at m5 m6
 obtain ⟨f1,f2,f3⟩:=Qs_fit h hi hw hw2 hp0 hp2
 have hlen:=zoZ x
 have hD:w*x[i]=(((w*x[i]).toNat:Nat):Int):=by omega
 have n1:=c_NewG (2*(i:Int) - 1) 2 (by omega) (by omega) (by omega) (by omega)
 have n2:=c_NewG (p*x.sum - (x.take i).sum*w) (w*x[i]) (by omega) (by omega) (by omega) (by omega)
 have v1:newR (2*(i:Int) - 1) 2=(ofR (mkRat (2*i - 1) 2),0):=(zrv (N:=2*(i:Int) - 1) (D:=2) (by omega) (by omega) (by omega)).1
 have v2:=(zrv (N:=p*x.sum - (x.take i).sum*w) (D:=(w*x[i]).toNat) (by omega) (by omega) (by omega)).1
 rw [← hD] at v2
 rw [v1] at n1
 rw [v2] at n2
 have ad:=znj _ _ f2 f3
 rw [← Qs_frac h hi p w hw,zcU f1] at ad
 refine zr6 _ _ _ _ ?_
 have e0:w64 (((List.map zaj (bel x)).length:Int) - 1)=((x.length:Nat):Int):=by rw [lenI,hlen,w64_id (by omega) (by omega)]; omega
 have e1:w64 ((i:Int)+1)=((i+1:Nat):Int):=by rw [w64_id (by omega) (by omega)]; omega
 have e2:w64 (w64 (2*(i:Int)) - 1)=2*i - 1:=by rw [w64_id (n:=2*(i:Int)) (by omega) (by omega),w64_id (by omega) (by omega)]
 rw [e0,zaf (by omega),Int.toNat_natCast,elemI (by omega),bel_at,List.take_length,e2,n1,ziU,brn_f (by rfl),zaf (by omega),Int.toNat_natCast,elemI (by omega),bel_at,e1,zaf (by omega),Int.toNat_natCast,elemI (by omega),bel_at,
  zaf (by omega),elemI (by omega),bel_at,zgJ hi]
 have e3:w64 ((x.take i).sum+x[i] - (x.take i).sum)=x[i]:=by rw [w64_id (by omega) (by omega)]; omega
 rw [e3,w64_id (n:=p*x.sum) (by omega) (by omega),w64_id (n:=(x.take i).sum*w) (by omega) (by omega),w64_id (n:=p*x.sum - (x.take i).sum*w) (by omega) (by omega),w64_id (n:=w*x[i]) (by omega) (by omega),
  n2,ziU,brn_f (by rfl),ad,zdR]
 rfl
theorem zsy (x:List Int) (hl:x.length≤100000):cw zeg [.sl 1 (List.map zaj x),I 0] []=some (zfY (dec ((0:Int)∈x))):=by
 have key:∀ (k i:Nat),i+k=x.length→(∀ j (h:j < x.length),j < i→x[j]≠0)→∃ v:Int,zey x 0 (i:Int)=some (zg5 v)∧decide (0≤v)=dec ((0:Int)∈x):=by
  intro k
  induction k with
  | zero =>
    intro i hi hp
    refine ⟨-1,zgd _ _ _ ?_,?_⟩
    · rw [zag,if_neg (by rw [lenI]; omega)]; rfl
    · rw [zbk (fun h=>by
       obtain ⟨j,hj,e⟩:=List.mem_iff_getElem.1 h
       exact hp j hj (by omega) e)]; rfl
  | succ k ih =>
    intro i hi hp
    have e:w64 ((i:Int)+1)=((i+1:Nat):Int):=by rw [w64_id (by omega) (by omega)]; omega
    by_cases h0:x[i]=0
    · refine ⟨(i:Int),zgd _ _ _ ?_,?_⟩
      · rw [zag,if_pos (by rw [lenI]; omega),zaf (by omega),Int.toNat_natCast,elemI (by omega),h0,brn_t (by rfl)]; rfl
      · rw [zbH (h0▸List.getElem_mem (by omega)),decide_eq_true (by omega)]
    · obtain ⟨v,h1,h2⟩:=ih (i+1) (by omega) (fun j hj hji=>by
       rcases Nat.lt_or_eq_of_le (Nat.le_of_lt_succ hji) with h | h
       · exact hp j hj h
       · subst h; exact h0)
      refine ⟨v,zgd _ _ _ ?_,h2⟩
      rw [zag,if_pos (by rw [lenI]; omega),zaf (by omega),Int.toNat_natCast,elemI (by omega),brn_f (beq_false_of_ne (fun h=>h0 h.symm)),e]
      exact h1
 obtain ⟨v,h1,h2⟩:=key x.length 0 (by omega) (fun j _ h=>by omega)
 refine zmQ _ _ ?_
 rw [zon x 0 h1,zmm,h2]
 rfl
def pcP (x y:List Int):List Pt:=pts (shr x) (shr y) x.length y.length
theorem half_fit:Fit (-1 / 2:Rat):=by decide +kernel
theorem pcP_asc {x y:List Int} (hx:FD x) (hy:FD y):Asc (pcP x y):=pts_asc hx.sh hy.sh
theorem pcP_len {x y:List Int} (hx:FD x) (hy:FD y):2≤(pcP x y).length∧(pcP x y).length≤x.length+y.length+1:=pts_len hx.sh hy.sh
theorem pcP_fit {x y:List Int} (hx:FD x) (hy:FD y):AllF (pcP x y):=fun p hp=>by
 rcases pts_is hx.sh hy.sh p hp with rfl | ⟨i,j,s,hi,hj,_,_,_,_,hs,rfl⟩
 · exact ⟨half_fit,half_fit⟩
 · have ux:=hx.sum
   have uy:=hy.sum
   rcases hs with rfl | rfl
   · have tx:=hx.take (i+1)
     exact ⟨(Qs_fit hx hi (p:=(x.take (i+1)).sum) (w:=x.sum) (by omega) (by omega) (by omega) (by omega)).1,(Qs_fit hy hj (p:=(x.take (i+1)).sum) (w:=x.sum) (by omega) (by omega) (by omega) (by omega)).1⟩
   · have ty:=hy.take (j+1)
     exact ⟨(Qs_fit hx hi (p:=(y.take (j+1)).sum) (w:=y.sum) (by omega) (by omega) (by omega) (by omega)).1,(Qs_fit hy hj (p:=(y.take (j+1)).sum) (w:=y.sum) (by omega) (by omega) (by omega) (by omega)).1⟩
section
theorem lt_shr {x y:List Int} (hx:FD x) (hy:FD y) (i j:Nat):shr y j < shr x i↔(y.take j).sum*x.sum < (x.take i).sum*y.sum:=by
 have:=hx.sum
 have:=hy.sum
 exact frac_lt _ _ _ _ (by omega) (by omega)
theorem le_shr {x y:List Int} (hx:FD x) (hy:FD y) (i j:Nat):shr x i≤shr y j↔(x.take i).sum*y.sum≤(y.take j).sum*x.sum:=by
 have:=hx.sum
 have:=hy.sum
 exact frac_le _ _ _ _ (by omega) (by omega)
noncomputable abbrev rP (P:List Pt):Option (AV×Mem):=some (zfr (nfR P))
structure PcH (P:List Pt):Prop where
 asc:Asc P
 two:2≤P.length
 len:P.length≤410
 fit:AllF P
theorem zrx {x y:List Int} (N M:Int) (P:List Pt) (hP:PcH P) (i j:Int):zcz ⟨x⟩ ⟨y⟩ (bel x) (bel y) N M j (ptsE P) i=rP P:=by
 refine zmq _ _ _ _ _ _ _ _ _ ?_
 have hn:cw zgp [.agg (zao (cF P))] []=some (ziI (nfR P)):=by
  refine zqm _ ?_
  rw [zmh,zdW,zbH (vc_of hP.fit hP.asc hP.two hP.len),brn_nt]
  show callD zdS (cw zeR [.sl 4 (ptsE P)] []) _=_
  rw [zva P hP.asc hP.two hP.len hP.fit,zjO]
  rfl
 rw [zaf (by omega),List.take_length]
 show callD zeU (cw zgp [.agg (zao (cF P))] []) _=_
 rw [hn,znH,zaf (by omega),zaf (by omega),zaf (by omega)]
 rfl
def Loop (x y:List Int) (P F:List Pt) (i j:Nat):Prop:=
 zdI ⟨x⟩ ⟨y⟩ (bel x) (bel y) x.sum y.sum (ptsE F) (i:Int) (j:Int)=rP P ∧
 zeh ⟨x⟩ ⟨y⟩ (bel x) (bel y) x.sum y.sum (j:Int) (ptsE F) (i:Int)=rP P
theorem k_P1024 {x y:List Int} (hx:FD x) (hy:FD y) (P F:List Pt) (i i' j:Nat) (hi:i+1≤x.length) (hj:j+1≤y.length) (hl:Loop x y P F i' (nj (shr x) (shr y) i j)) :
  zc2 ⟨x⟩ ⟨y⟩ (bel x) (bel y) x.sum y.sum (j:Int) (ptsE F) (i':Int) ((x.take (i+1)).sum*y.sum) ((y.take (j+1)).sum*x.sum)=rP P ∧
  zcS ⟨x⟩ ⟨y⟩ (bel x) (bel y) x.sum y.sum (j:Int) (ptsE F) (i':Int) ((x.take (i+1)).sum*y.sum) ((y.take (j+1)).sum*x.sum)=rP P:=by
 have hl2:=hy.1.2.1
 have e:w64 ((j:Int)+1)=((j+1:Nat):Int):=by rw [w64_id (by omega) (by omega)]; omega
 have hc:=le_shr hy hx (j+1) (i+1)
 unfold nj at hl
 constructor
 · refine zmk _ _ _ _ _ _ _ _ _ _ _ ?_
   rw [zag,e]
   by_cases h:(y.take (j+1)).sum*x.sum≤(x.take (i+1)).sum*y.sum
   · rw [if_pos h]; rw [if_pos (hc.2 h)] at hl; exact hl.1
   · rw [if_neg h]; rw [if_neg (fun h'=>h (hc.1 h'))] at hl; exact hl.2
 · refine zlS _ _ _ _ _ _ _ _ _ _ _ ?_
   rw [zag,e]
   by_cases h:(y.take (j+1)).sum*x.sum≤(x.take (i+1)).sum*y.sum
   · rw [if_pos h]; rw [if_pos (hc.2 h)] at hl; exact hl.1
   · rw [if_neg h]; rw [if_neg (fun h'=>h (hc.1 h'))] at hl; exact hl.2
theorem zxA {x y:List Int} (hx:FD x) (hy:FD y) (P:List Pt) (hP:PcH P) :
  ∀ (k i j:Nat) (s:Rat) (F:List Pt),At (shr x) (shr y) x.length y.length i j s→(x.length - i)+(y.length - j)≤k→F.length≤1000+i+j→P=F++pw (shr x) (shr y) x.length y.length k i j→Loop x y P F i j:=by
 have sx:=hx.sh
 have sy:=hy.sh
 have lx:=hx.1.2.1
 have ly:=hy.1.2.1
 have ux:=hx.sum
 have uy:=hy.sum
 have blx:=zoZ x
 have bly:=zoZ y
 intro k
 induction k with
 | zero =>
   intro i j s F h hk hF hPe
   have e:P=F:=by rw [hPe]; simp [pw]
   subst e
   have him:=h.im
   have hjm:=h.jm
   constructor
   · refine zgv _ _ _ _ _ _ _ _ _ ?_
     rw [zag,if_neg (by show ¬ (i:Int) < ((List.map zaj x).length:Int); rw [lenI]; omega)]
     exact zrx _ _ P hP _ _
   · refine zfO _ _ _ _ _ _ _ _ _ ?_
     rw [zag,if_neg (by show ¬ (i:Int) < ((List.map zaj x).length:Int); rw [lenI]; omega)]
     exact zrx _ _ P hP _ _
 | succ k ih =>
   intro i j s F h hk hF hPe
   have him:=h.im
   have hjm:=h.jm
   by_cases hi:i < x.length
   · have hj:j < y.length:=(h.both sx sy).1 hi
     obtain ⟨h1,h2,h3,h4,h5⟩:=h.next sx sy hi hj
     have hless:=less_steps (a:=shr x) (b:=shr y) i j
     have him':=h1.im
     have hjm':=h1.jm
     rw [zoY k hi hj] at hPe
     have hrec:=ih (ni (shr x) (shr y) i j) (nj (shr x) (shr y) i j) (nx (shr x) (shr y) i j) (F++[(Qs (shr x) i (nx (shr x) (shr y) i j),Qs (shr y) j (nx (shr x) (shr y) i j))]) h1 (by omega) (by simp; omega) (by rw [hPe]; simp)
     have tx:=hx.take (i+1)
     have ty:=hy.take (j+1)
     have m1:(x.take (i+1)).sum*y.sum≤1048576*1048576:=Int.mul_le_mul (by omega) uy.2 (by omega) (by omega)
     have m2:0≤(x.take (i+1)).sum*y.sum:=Int.mul_nonneg tx.1 (by omega)
     have m3:(y.take (j+1)).sum*x.sum≤1048576*1048576:=Int.mul_le_mul (by omega) ux.2 (by omega) (by omega)
     have m4:0≤(y.take (j+1)).sum*x.sum:=Int.mul_nonneg ty.1 (by omega)
     have ei:w64 ((i:Int)+1)=((i+1:Nat):Int):=by rw [w64_id (by omega) (by omega)]; omega
     have ej:w64 ((j:Int)+1)=((j+1:Nat):Int):=by rw [w64_id (by omega) (by omega)]; omega
     have hc:=le_shr hx hy (i+1) (j+1)
     have hF':ptsE F++[zak (ofP (Qs (shr x) i (nx (shr x) (shr y) i j),Qs (shr y) j (nx (shr x) (shr y) i j)))]=ptsE (F++[(Qs (shr x) i (nx (shr x) (shr y) i j),Qs (shr y) j (nx (shr x) (shr y) i j))]):=by
      simp only [ptsE,List.map_append,List.map_cons,List.map_nil]
     have ani:=h.ai
     have bnj:=h.bj
     have tail:∀ (A B:Option (AV×Mem)),
       (shr x (i+1)≤shr y (j+1)→A=zc2 ⟨x⟩ ⟨y⟩ (bel x) (bel y) x.sum y.sum (j:Int) (ptsE (F++[(Qs (shr x) i (nx (shr x) (shr y) i j),Qs (shr y) j (nx (shr x) (shr y) i j))])) (w64 ((i:Int)+1)) ((x.take (i+1)).sum*y.sum) ((y.take (j+1)).sum*x.sum)) →
       (¬ shr x (i+1)≤shr y (j+1)→B=zcS ⟨x⟩ ⟨y⟩ (bel x) (bel y) x.sum y.sum (j:Int) (ptsE (F++[(Qs (shr x) i (nx (shr x) (shr y) i j),Qs (shr y) j (nx (shr x) (shr y) i j))])) (i:Int) ((x.take (i+1)).sum*y.sum) ((y.take (j+1)).sum*x.sum)) →
       brn (decide ((x.take (i+1)).sum*y.sum≤(y.take (j+1)).sum*x.sum)) A B=rP P:=by
      intro A B hA hB
      rw [zag]
      by_cases hle:shr x (i+1)≤shr y (j+1)
      · rw [if_pos (hc.1 hle),hA hle,ei]
        have:ni (shr x) (shr y) i j=i+1:=by unfold ni; rw [if_pos hle]
        rw [this] at hrec
        exact (k_P1024 hx hy P _ i (i+1) j (by omega) (by omega) hrec).1
      · rw [if_neg (fun h'=>hle (hc.2 h')),hB hle]
        have:ni (shr x) (shr y) i j=i:=by unfold ni; rw [if_neg hle]
        rw [this] at hrec
        exact (k_P1024 hx hy P _ i i j (by omega) (by omega) hrec).2
     have f1015:shr y (j+1) < shr x (i+1)→zd4 ⟨x⟩ ⟨y⟩ (bel x) (bel y) x.sum y.sum (j:Int) (ptsE F) (i:Int) ((x.take (i+1)).sum*y.sum) ((y.take (j+1)).sum*x.sum) (y.take (j+1)).sum=rP P:=by
      intro hlt
      have enx:nx (shr x) (shr y) i j=(((y.take (j+1)).sum:Int):Rat) / ((y.sum:Int):Rat):=by unfold nx; rw [if_pos hlt]; rfl
      have c1:=zpl hx hi (y.take (j+1)).sum y.sum (by omega) (by omega) (by omega) (by omega)
      have c2:=zpl hy hj (y.take (j+1)).sum y.sum (by omega) (by omega) (by omega) (by omega)
      rw [← enx] at c1 c2
      refine zmj _ _ _ _ _ _ _ _ _ _ _ _ ?_
      rw [zaf (by omega),List.take_length,c1,zft,brn_f (by rfl),zaf (by omega),List.take_length,c2,zft,brn_f (by rfl),zaf rfl,zaf (by rw [lenP]; omega),zaf rfl]
      refine tail _ _ (fun _=>?_) (fun _=>?_) <;> rw [← hF'] <;> rfl
     have f1015v:¬ shr y (j+1) < shr x (i+1)→zdG ⟨x⟩ ⟨y⟩ (bel x) (bel y) x.sum y.sum (j:Int) (ptsE F) (i:Int) ((x.take (i+1)).sum*y.sum) ((y.take (j+1)).sum*x.sum) (x.take (i+1)).sum=rP P:=by
      intro hlt
      have enx:nx (shr x) (shr y) i j=(((x.take (i+1)).sum:Int):Rat) / ((x.sum:Int):Rat):=by unfold nx; rw [if_neg hlt]; rfl
      have c1:=zpl hx hi (x.take (i+1)).sum x.sum (by omega) (by omega) (by omega) (by omega)
      have c2:=zpl hy hj (x.take (i+1)).sum x.sum (by omega) (by omega) (by omega) (by omega)
      rw [← enx] at c1 c2
      refine zlK _ _ _ _ _ _ _ _ _ _ _ _ ?_
      rw [zaf (by omega),List.take_length,c1,zft,brn_f (by rfl),zaf (by omega),List.take_length,c2,zft,brn_f (by rfl),zaf rfl,zaf (by rw [lenP]; omega),zaf rfl]
      refine tail _ _ (fun _=>?_) (fun _=>?_) <;> rw [← hF'] <;> rfl
     have hcl:=lt_shr hx hy (i+1) (j+1)
     constructor
     · refine zgv _ _ _ _ _ _ _ _ _ ?_
       rw [zag,if_pos (by show (i:Int) < ((List.map zaj x).length:Int); rw [lenI]; omega),zag,if_pos (by show (j:Int) < ((List.map zaj y).length:Int); rw [lenI]; omega),ei,ej,lenI,lenI,zaf (by omega),zaf (by omega),Int.toNat_natCast,Nat.zero_add,elemI (by omega),bel_at,zaf (by omega),zaf (by omega),Int.toNat_natCast,Nat.zero_add,elemI (by omega),bel_at,
        zaf (by omega),zaf (by omega),elemI (by omega),bel_at,zag,w64_id (n:=(y.take (j+1)).sum*x.sum) (by omega) (by omega),w64_id (n:=(x.take (i+1)).sum*y.sum) (by omega) (by omega)]
       by_cases hlt:shr y (j+1) < shr x (i+1)
       · rw [if_pos (hcl.1 hlt),zaf (by omega),zaf (by omega),elemI (by omega),bel_at]
         exact f1015 hlt
       · rw [if_neg (fun h'=>hlt (hcl.2 h'))]
         exact f1015v hlt
     · refine zfO _ _ _ _ _ _ _ _ _ ?_
       rw [zag,if_pos (by show (i:Int) < ((List.map zaj x).length:Int); rw [lenI]; omega),zag,if_pos (by show (j:Int) < ((List.map zaj y).length:Int); rw [lenI]; omega),ei,ej,lenI,lenI,zaf (by omega),zaf (by omega),Int.toNat_natCast,Nat.zero_add,elemI (by omega),bel_at,zaf (by omega),zaf (by omega),Int.toNat_natCast,Nat.zero_add,elemI (by omega),bel_at,
        zaf (by omega),zaf (by omega),elemI (by omega),bel_at,zag,w64_id (n:=(y.take (j+1)).sum*x.sum) (by omega) (by omega),w64_id (n:=(x.take (i+1)).sum*y.sum) (by omega) (by omega)]
       by_cases hlt:shr y (j+1) < shr x (i+1)
       · rw [if_pos (hcl.1 hlt),zaf (by omega),zaf (by omega),elemI (by omega),bel_at]
         exact f1015 hlt
       · rw [if_neg (fun h'=>hlt (hcl.2 h'))]
         exact f1015v hlt
   · have e:P=F:=by
      rw [hPe]
      have:pw (shr x) (shr y) x.length y.length (k+1) i j=[]:=by unfold pw; rw [if_neg (fun h'=>hi h'.1)]
      rw [this,List.append_nil]
     subst e
     constructor
     · refine zgv _ _ _ _ _ _ _ _ _ ?_
       rw [zag,if_neg (by show ¬ (i:Int) < ((List.map zaj x).length:Int); rw [lenI]; omega)]
       exact zrx _ _ P hP _ _
     · refine zfO _ _ _ _ _ _ _ _ _ ?_
       rw [zag,if_neg (by show ¬ (i:Int) < ((List.map zaj x).length:Int); rw [lenI]; omega)]
       exact zrx _ _ P hP _ _
end
theorem zqJ {x y:List Int} (hx:FD x) (hy:FD y):cw zef [aD x,aD y] []=some (zfr (nfR (pcP x y))):=by
 have lx:=hx.1.2.1
 have ly:=hy.1.2.1
 have blx:=zoZ x
 have bly:=zoZ y
 have n0:∀ {z:List Int},FD z→¬ (0:Int)∈z:=fun h hc=>by have:=h.2 0 hc; omega
 refine zoS _ _ ?_
 have e1:w64 (((List.map zaj (bel x)).length:Int) - 1)=((x.length:Nat):Int):=by rw [lenI,blx,w64_id (by omega) (by omega)]; omega
 have e2:w64 (((List.map zaj (bel y)).length:Int) - 1)=((y.length:Nat):Int):=by rw [lenI,bly,w64_id (by omega) (by omega)]; omega
 rw [zjo,zbJ,zbH hx.1,brn_nt,zjo,zbJ,zbH hy.1,brn_nt,zsy x (by omega),zg9,zbk (n0 hx),brn_F,zsy y (by omega),zg9,zbk (n0 hy),brn_F,c_sums hx,zlC,c_sums hy,zlC,e1,e2,lenI,lenI,zaf (by omega),zaf (by omega),Int.toNat_natCast,Nat.zero_add,elemI (by omega),bel_at,List.take_length,
  zaf (by omega),zaf (by omega),Int.toNat_natCast,Nat.zero_add,elemI (by omega),bel_at,List.take_length,zaf rfl]
 have hh:ofR (-1 / 2:Rat)=⟨-1,2⟩:=by
  have h1:(-1 / 2:Rat).num=-1:=by decide +kernel
  have h2:(-1 / 2:Rat).den=2:=by decide +kernel
  unfold ofR
  rw [h1,h2]
  rfl
 have hl:=pcP_len hx hy
 have key:=(zxA hx hy (pcP x y) ⟨pcP_asc hx hy,hl.1,by omega,pcP_fit hx hy⟩ (x.length+y.length) 0 0 0 [(-1 / 2,-1 / 2)] (at0 hx.sh hy.sh) (by omega) (by simp) rfl).1
 unfold rP at key
 rw [← key]
 have e3:ptsE [((-1 / 2:Rat),(-1 / 2:Rat))]=[zak ⟨⟨-1,2⟩,⟨-1,2⟩⟩]:=by
  show [zak (ofP (-1 / 2,-1 / 2))]=_
  unfold ofP
  rw [hh]
 rw [e3]
 rfl
end Go.Proofs.YtbhkcgaanaelfaaGreat
namespace Go.Proofs.YtbhkcgaanaelfaaGreat
open Go.Ab Go.Pure
set_option linter.unusedSimpArgs false
set_option linter.unusedVariables false
set_option maxRecDepth 20000
section
variable {x y:List Int}
end
end Go.Proofs.YtbhkcgaanaelfaaGreat
namespace Go.Proofs.YtbhkcgaanaelfaaGreat
open Go.Ab Go.Pure
set_option linter.unusedSimpArgs false
set_option linter.unusedVariables false
set_option maxRecDepth 20000
theorem both_LineN (s t:GRatio):∃ v:GCurve×Int,cw zfJ [.agg (zaa s),.agg (zaa t)] []=some (zfF v)∧cw zns [.agg (zaa s),.agg (zaa t)] []=some (znw v)∧v.1.Points.length≤2:=by
 by_cases h1:VR s
 · by_cases h2:VR t
   · by_cases h3:s.Num≤0
     · refine ⟨(⟨[]⟩,2),zdO _ _ ?_,zjn _ _ ?_,by simp⟩
       · rw [zdM,zaY,decide_eq_true h1,brn_nt,zdM,zaY,decide_eq_true h2,brn_nt,zag,if_pos h3]; rfl
       · rw [zeO,zaP,decide_eq_true h1,brn_nt,zeO,zaP,decide_eq_true h2,brn_nt,zag,if_pos h3]; rfl
     · obtain ⟨a,ha,rfl⟩:=VR_fit h1
       obtain ⟨b,hb,rfl⟩:=VR_fit h2
       have A:=znj a b ha hb
       have R:=c_rAddF b a hb ha
       rw [Rat.add_comm b a] at R
       by_cases hf:Fit (a+b)
       · refine ⟨(⟨[⟨⟨0,1⟩,ofR b⟩,⟨⟨1,1⟩,ofR (a+b)⟩]⟩,0),zdO _ _ ?_,zjn _ _ ?_,by simp⟩
         · rw [zdM,zaY,decide_eq_true h1,brn_nt,zdM,zaY,decide_eq_true h2,brn_nt,zag,if_neg h3,A,zdR,zcU hf,brn_f (by rfl),zjp,zbb,zjp,zbb]; rfl
         · rw [zeO,zaP,decide_eq_true h1,brn_nt,zeO,zaP,decide_eq_true h2,brn_nt,zag,if_neg h3,R,zlj,zcU hf]; rfl
       · refine ⟨(⟨[]⟩,6),zdO _ _ ?_,zjn _ _ ?_,by simp⟩
         · rw [zdM,zaY,decide_eq_true h1,brn_nt,zdM,zaY,decide_eq_true h2,brn_nt,zag,if_neg h3,A,zdR,zgF hf]; rfl
         · rw [zeO,zaP,decide_eq_true h1,brn_nt,zeO,zaP,decide_eq_true h2,brn_nt,zag,if_neg h3,R,zlj,zgF hf]; rfl
   · refine ⟨(⟨[]⟩,1),zdO _ _ ?_,zjn _ _ ?_,by simp⟩
     · rw [zdM,zaY,decide_eq_true h1,brn_nt,zdM,zaY,decide_eq_false h2]; rfl
     · rw [zeO,zaP,decide_eq_true h1,brn_nt,zeO,zaP,decide_eq_false h2]; rfl
 · refine ⟨(⟨[]⟩,1),zdO _ _ ?_,zjn _ _ ?_,by simp⟩
   · rw [zdM,zaY,decide_eq_false h1]; rfl
   · rw [zeO,zaP,decide_eq_false h1]; rfl
theorem zxy {s a b:Rat} (hs:Fit s) (ha:Fit a) (hb:Fit b):∃ v:GCurve×Int,cw zb8 [aR s,aR a,aR b] []=some (zfi v)∧cw zgI [aR s,aR a,aR b] []=some (zlt v)∧v.1.Points.length≤2:=by
 by_cases h1:Fit (s*a)
 · by_cases h2:Fit (b - s*a)
   · obtain ⟨v,p,r,hl⟩:=both_LineN (ofR s) (ofR (b - s*a))
     refine ⟨v,zfo _ _ _ ?_,zla _ _ _ ?_,hl⟩
     · rw [zme _ _ hs ha,zdj,zcU h1,brn_f (by rfl),zoV _ _ hb h1,zfx,zcU h2,brn_f (by rfl),p,zhy]; rfl
     · rw [c_rMulF _ _ hs ha,zk9,zcU h1,brn_f (by rfl),c_rSubF _ _ hb h1,zn8,zcU h2,brn_f (by rfl),r,zsQ]; rfl
   · refine ⟨(⟨[]⟩,6),zfo _ _ _ ?_,zla _ _ _ ?_,by simp⟩
     · rw [zme _ _ hs ha,zdj,zcU h1,brn_f (by rfl),zoV _ _ hb h1,zfx,zgF h2]; rfl
     · rw [c_rMulF _ _ hs ha,zk9,zcU h1,brn_f (by rfl),c_rSubF _ _ hb h1,zn8,zgF h2]; rfl
 · refine ⟨(⟨[]⟩,6),zfo _ _ _ ?_,zla _ _ _ ?_,by simp⟩
   · rw [zme _ _ hs ha,zdj,zgF h1]; rfl
   · rw [c_rMulF _ _ hs ha,zk9,zgF h1]; rfl
def badD (x y:List Int):Prop:=¬ (VD x∧VD y)∨x.sum=0∨y.sum=0
noncomputable def badE (x y:List Int):Int:=@ite Int (VD x∧VD y) (Classical.propDecidable _) 10 1
theorem zrw (x y:List Int):cw zet [aD x,aD y,.fn zcL []] []=some (ziT (@ite (GRatio×GRatio×Int) (badD x y) (Classical.propDecidable _) (⟨0,0⟩,⟨0,0⟩,badE x y) (ofR (mn x),ofR (mn y),0))):=by
 refine zpk _ _ ?_
 rw [zjo,zbJ]
 by_cases hx:VD x
 · rw [zbH hx,brn_nt,zjo,zbJ]
   by_cases hy:VD y
   · have hE:badE x y=10:=if_pos ⟨hx,hy⟩
     rw [zbH hy,brn_nt,znc hx,zdv]
     by_cases x0:x.sum=0
     · rw [x0,brn_t (by rfl),if_pos (.inr (.inl x0)),hE]; rfl
     · rw [brn_f (beq_false_of_ne x0),znc hy,zdv]
       by_cases y0:y.sum=0
       · rw [y0,brn_t (by rfl),if_pos (.inr (.inr y0)),hE]; rfl
       · rw [brn_f (beq_false_of_ne y0),(ze7 hx x0).1,zjN,brn_f (by rfl),(ze7 hy y0).1,zjN,brn_f (by rfl),if_neg (fun h=>by
          rcases h with h | h | h
          · exact h ⟨hx,hy⟩
          · exact x0 h
          · exact y0 h)]; rfl
   · have hE:badE x y=1:=if_neg (fun h=>hy h.2)
     rw [zbk hy,if_pos (.inl (fun h=>hy h.2)),hE]; rfl
 · have hE:badE x y=1:=if_neg (fun h=>hx h.1)
   rw [zbk hx,if_pos (.inl (fun h=>hx h.1)),hE]; rfl
theorem c_bothD (x y:List Int):cw zet [aD x,aD y,.fn zck []] []=some (ziT (@ite (GRatio×GRatio×Int) (badD x y) (Classical.propDecidable _) (⟨0,0⟩,⟨0,0⟩,badE x y) (ofR (dvn x),ofR (dvn y),0))):=by
 refine zmW _ _ ?_
 rw [zjo,zbJ]
 by_cases hx:VD x
 · rw [zbH hx,brn_nt,zjo,zbJ]
   by_cases hy:VD y
   · have hE:badE x y=10:=if_pos ⟨hx,hy⟩
     rw [zbH hy,brn_nt,znc hx,zdv]
     by_cases x0:x.sum=0
     · rw [x0,brn_t (by rfl),if_pos (.inr (.inl x0)),hE]; rfl
     · rw [brn_f (beq_false_of_ne x0),znc hy,zdv]
       by_cases y0:y.sum=0
       · rw [y0,brn_t (by rfl),if_pos (.inr (.inr y0)),hE]; rfl
       · rw [brn_f (beq_false_of_ne y0),(zk4 hx x0).1,zhr,brn_f (by rfl),(zk4 hy y0).1,zhr,brn_f (by rfl),if_neg (fun h=>by
          rcases h with h | h | h
          · exact h ⟨hx,hy⟩
          · exact x0 h
          · exact y0 h)]; rfl
   · have hE:badE x y=1:=if_neg (fun h=>hy h.2)
     rw [zbk hy,if_pos (.inl (fun h=>hy h.2)),hE]; rfl
 · have hE:badE x y=1:=if_neg (fun h=>hx h.1)
   rw [zbk hx,if_pos (.inl (fun h=>hx h.1)),hE]; rfl
theorem c_rMean0 {l:List Int} (h:VD l) (h0:l.sum=0):cw zfl [aD l] []=some (zge (⟨0,0⟩,10)):=by
 refine zrh _ ?_
 rw [zsH,zj1,if_pos h,if_pos h0]
 rfl
theorem rMeans {x y:List Int} (hx:VD x) (hy:VD y):∃ (a b:GRatio×Int),cw zfl [aD x] []=some (zge a)∧cw zfl [aD y] []=some (zge b)∧(x.sum=0→a.2=10)∧(y.sum=0→b.2=10)∧(x.sum≠0→a=(ofR (mn x),0))∧(y.sum≠0→b=(ofR (mn y),0)):=by
 have one:∀ {l:List Int},VD l→∃ a:GRatio×Int,cw zfl [aD l] []=some (zge a)∧(l.sum=0→a.2=10)∧(l.sum≠0→a=(ofR (mn l),0)):=fun {l} h=>by
  by_cases h0:l.sum=0
  · exact ⟨_,c_rMean0 h h0,fun _=>rfl,fun h1=>absurd h0 h1⟩
  · exact ⟨_,(ze7 h h0).2.1,fun h1=>absurd h1 h0,fun _=>rfl⟩
 obtain ⟨a,a1,a2,a3⟩:=one hx
 obtain ⟨b,b1,b2,b3⟩:=one hy
 exact ⟨a,b,a1,b1,a2,b2,a3,b3⟩
theorem fit1:Fit (1:Rat):=by decide
theorem zwY (x y:List Int):∃ v:GCurve×Int,cw zeI [aD x,aD y] []=some (zeD v)∧cw zlL [aD x,aD y] []=some (zoT v)∧v.1.Points.length≤2:=by
 have B:=zrw x y
 have D:=c_bothD x y
 by_cases hx:VD x
 · by_cases hy:VD y
   · obtain ⟨a,b,r1,r2,r3,r4,r5,r6⟩:=rMeans hx hy
     by_cases x0:x.sum=0
     · rw [if_pos (.inr (.inl x0)),show badE x y=10 from if_pos ⟨hx,hy⟩] at D
       refine ⟨(⟨[]⟩,10),zbY _ _ ?_,zhC _ _ ?_,by simp⟩
       · rw [D,zaR]; rfl
       · rw [zfj,zbZ,zbH hx,brn_nt,zfj,zbZ,zbH hy,brn_nt,r1,ze0,r2,ze0,r3 x0]; rfl
     · by_cases y0:y.sum=0
       · rw [if_pos (.inr (.inr y0)),show badE x y=10 from if_pos ⟨hx,hy⟩] at D
         refine ⟨(⟨[]⟩,10),zbY _ _ ?_,zhC _ _ ?_,by simp⟩
         · rw [D,zaR]; rfl
         · rw [zfj,zbZ,zbH hx,brn_nt,zfj,zbZ,zbH hy,brn_nt,r1,ze0,r2,ze0,r5 x0,r4 y0]; rfl
       · have hb:¬ badD x y:=fun h=>by
          rcases h with h | h | h
          · exact h ⟨hx,hy⟩
          · exact x0 h
          · exact y0 h
         rw [if_neg hb] at B D
         obtain ⟨_,rx,fx⟩:=zk4 hx x0
         obtain ⟨_,ry,fy⟩:=zk4 hy y0
         have rbeg:∀ y':AV×Mem,(brn ((ofR (dvn x)).Num == 0) (some (.tup [.agg (zao ⟨[]⟩),I 10],[]))
           (brn ((ofR (dvn y)).Num == 0) (some (.tup [.agg (zao ⟨[]⟩),I 10],[]))
            (callD zkb (cw zl7 [aR (dvn y),aR (dvn x)] []) fun (r6:GRatio×Int) =>
             brn (r6.snd != 0) (some (.tup [.agg (zao ⟨[]⟩),I r6.snd],[]))
             (callD zfu (cw zgI [.agg (zaa r6.fst),aR (mn x),aR (mn y)] []) fun (r7:GCurve×Int) =>
              some (.tup [.agg (zao r7.fst),I r7.snd],[])))))=some y'→cw zlL [aD x,aD y] []=some y':=fun y' hy'=>by
          refine zhC _ _ ?_
          rw [zfj,zbZ,zbH hx,brn_nt,zfj,zbZ,zbH hy,brn_nt,r1,ze0,r2,ze0,r5 x0,r6 y0,brn_f (by rfl),brn_f (by rfl),rx,zkZ,ry,zkZ,brn_f (by rfl),brn_f (by rfl)]
          exact hy'
         by_cases d1:(dvn x).num=0
         · refine ⟨(⟨[]⟩,10),zbY _ _ ?_,rbeg _ ?_,by simp⟩
           · rw [D,zaR,brn_f (by rfl)]
             show brn ((dvn x).num == 0) _ _=_
             rw [d1]; rfl
           · rw [oN,d1]; rfl
         · by_cases d2:(dvn y).num=0
           · refine ⟨(⟨[]⟩,10),zbY _ _ ?_,rbeg _ ?_,by simp⟩
             · rw [D,zaR,brn_f (by rfl)]
               show brn ((dvn x).num == 0) _ (brn ((dvn y).num == 0) _ _)=_
               rw [brn_f (beq_false_of_ne d1),d2]; rfl
             · rw [oN,oN,brn_f (beq_false_of_ne d1),d2]; rfl
           · have n1:dvn x≠0:=fun h=>d1 (by rw [h]; rfl)
             by_cases hf:Fit (dvn y / dvn x)
             · obtain ⟨v,p,r,hl⟩:=zxy hf (ze7 hx x0).2.2 (ze7 hy y0).2.2
               refine ⟨v,zbY _ _ ?_,rbeg _ ?_,hl⟩
               · rw [D,zaR,brn_f (by rfl)]
                 show brn ((dvn x).num == 0) _ (brn ((dvn y).num == 0) _ _)=_
                 rw [brn_f (beq_false_of_ne d1),brn_f (beq_false_of_ne d2),B,zaR,brn_f (by rfl)]
                 show callD zf1 (cw zcV [aR (dvn y),aR (dvn x)] []) _=_
                 rw [c_DivF _ _ fy fx n1,zgM,zcU hf,brn_f (by rfl)]
                 show callD zcC (cw zb8 [aR (dvn y / dvn x),aR (mn x),aR (mn y)] []) _=_
                 rw [p,zfg]; rfl
               · rw [oN,oN,brn_f (beq_false_of_ne d1),brn_f (beq_false_of_ne d2),c_rDivF _ _ fy fx n1,zn4,zcU hf,brn_f (by rfl)]
                 show callD zfu (cw zgI [aR (dvn y / dvn x),aR (mn x),aR (mn y)] []) _=_
                 rw [r,zqz]; rfl
             · refine ⟨(⟨[]⟩,6),zbY _ _ ?_,rbeg _ ?_,by simp⟩
               · rw [D,zaR,brn_f (by rfl)]
                 show brn ((dvn x).num == 0) _ (brn ((dvn y).num == 0) _ _)=_
                 rw [brn_f (beq_false_of_ne d1),brn_f (beq_false_of_ne d2),B,zaR,brn_f (by rfl)]
                 show callD zf1 (cw zcV [aR (dvn y),aR (dvn x)] []) _=_
                 rw [c_DivF _ _ fy fx n1,zgM,zgF hf]; rfl
               · rw [oN,oN,brn_f (beq_false_of_ne d1),brn_f (beq_false_of_ne d2),c_rDivF _ _ fy fx n1,zn4,zgF hf]; rfl
   · rw [if_pos (.inl (fun h=>hy h.2)),show badE x y=1 from if_neg (fun h=>hy h.2)] at D
     refine ⟨(⟨[]⟩,1),zbY _ _ ?_,zhC _ _ ?_,by simp⟩
     · rw [D,zaR]; rfl
     · rw [zfj,zbZ,zbH hx,brn_nt,zfj,zbZ,zbk hy]; rfl
 · rw [if_pos (.inl (fun h=>hx h.1)),show badE x y=1 from if_neg (fun h=>hx h.1)] at D
   refine ⟨(⟨[]⟩,1),zbY _ _ ?_,zhC _ _ ?_,by simp⟩
   · rw [D,zaR]; rfl
   · rw [zfj,zbZ,zbk hx]; rfl
end Go.Proofs.YtbhkcgaanaelfaaGreat
namespace Go.Pure
set_option linter.unusedVariables false
def IsSl (l:List Pt) (t:Rat):Prop:=∃ (c:Nat) (p q:Pt),l[c]?=some p∧l[c+1]?=some q∧t=sl p q
theorem sg_sl:∀ (r:List Pt) (q:Pt),∀ b∈sg (q :: r),IsSl (q :: r) b.2
 | [],q,b,hb=>by cases hb
 | s :: r,q,b,hb=>by
   rcases List.mem_cons.1 hb with hb | hb
   · rw [hb]; exact ⟨0,q,s,rfl,rfl,rfl⟩
   · obtain ⟨c,p,q',h1,h2,h3⟩:=sg_sl r s b hb
     exact ⟨c+1,p,q',by simpa using h1,by simpa using h2,h3⟩
theorem bs_sub:∀ (L:List (Pt×Rat)) (s:Rat),∀ b∈bs s L,b∈L
 | [],_,b,hb=>by cases hb
 | (c,t) :: r,s,b,hb=>by
   unfold bs at hb
   split at hb
   · exact List.mem_cons_of_mem _ (bs_sub r s b hb)
   · rcases List.mem_cons.1 hb with hb | hb
     · rw [hb]; exact List.mem_cons_self
     · exact List.mem_cons_of_mem _ (bs_sub r t b hb)
theorem nf_form2 {l:List Pt} (h:Asc l) (hl:2≤l.length):∃ (a:Pt) (s:Rat) (L:List (Pt×Rat)) (z:Pt),nf l=a :: (L.map (·.1)++[z])∧bn l=L.map (·.1)∧On a s L∧End a s L z∧IsSl l s∧(∀ b∈L,IsSl l b.2)∧a.1=lf (bn l)∧z.1=rt (bn l) ∧
  (L=[]→∃ p,l.head?=some p∧a.2=ln p s 0∧z.2=ln p s 1):=by
 match l,hl with
 | p :: q :: r,_ =>
   obtain ⟨h1,h2⟩:=sg_on r q p h
   obtain ⟨i1,i2,i3⟩:=bs_ok _ _ _ h1
   have he:=bn_bs r q p
   have hev:∀ x,cv (p :: q :: r) x=Fn p (sl p q) (bs (sl p q) (sg (q :: r))) x:=fun x=>by rw [ev_sg p q r h,i2]
   have hs:IsSl (p :: q :: r) (sl p q):=⟨0,p,q,rfl,rfl,rfl⟩
   have hL:∀ b∈bs (sl p q) (sg (q :: r)),IsSl (p :: q :: r) b.2:=fun b hb=>by
    obtain ⟨c,p',q',g1,g2,g3⟩:=sg_sl r q b (bs_sub _ _ b hb)
    exact ⟨c+1,p',q',by simpa using g1,by simpa using g2,g3⟩
   unfold nf
   rw [he]
   generalize bs (sl p q) (sg (q :: r))=L at *
   generalize sl p q=s at *
   cases L with
   | nil =>
     have e0:cv (p :: q :: r) 0=ln p s 0:=hev 0
     have e1:cv (p :: q :: r) 1=ln p s 1:=hev 1
     refine ⟨(0,cv (p :: q :: r) 0),s,[],(1,cv (p :: q :: r) 1),rfl,rfl,trivial,⟨by show (0:Rat) < 1; decide,?_⟩,hs,by simp,rfl,rfl,fun _=>⟨p,rfl,e0,e1⟩⟩
     show cv (p :: q :: r) 1=ln (0,cv (p :: q :: r) 0) s 1
     rw [e1]; exact (ziq (b:=(0,cv (p :: q :: r) 0)) e0 1).symm
   | cons b L =>
     obtain ⟨b,t⟩:=b
     have e0:cv (p :: q :: r) (b.1 - 1)=ln p s (b.1 - 1):=by rw [hev]; unfold Fn; rw [if_pos (by grind)]
     refine ⟨(b.1 - 1,cv (p :: q :: r) (b.1 - 1)),s,(b,t) :: L,(_,_),rfl,rfl,⟨by show b.1 - 1 < b.1; grind,?_,i1.2.2⟩,?_,hs,hL,rfl,rfl,by simp⟩
     · rw [i1.2.1]; exact (ziq (a:=p) (b:=(b.1 - 1,cv (p :: q :: r) (b.1 - 1))) e0 b.1).symm
     · have hg:=zkv L p s (b,t)
       have hlt:(lastB p s ((b,t) :: L)).1.1 < rt (((b,t) :: L).map (·.1)):=by
        rw [hg]
        exact lt1 _
       refine ⟨hlt,?_⟩
       show cv (p :: q :: r) _=_
       rw [hev]
       exact Fn_last _ _ _ i1 _ hlt
theorem zsz:∀ (L:List (Pt×Rat)) (a:Pt) (s:Rat) (z:Pt),On a s L→End a s L z→∀ (c:Nat) (p q:Pt),(a :: (L.map (·.1)++[z]))[c]?=some p→(a :: (L.map (·.1)++[z]))[c+1]?=some q→sl p q=s∨∃ b∈L,sl p q=b.2
 | [],a,s,z,ho,he,c,p,q,hp,hq=>by
   cases c with
   | zero =>
     simp at hp hq
     rw [← hp,← hq]
     exact .inl (sl_on (a:=a) (z:=z) (s:=s) he.1 he.2)
   | succ c=>simp at hq
 | (b,t) :: r,a,s,z,ho,he,c,p,q,hp,hq=>by
   cases c with
   | zero =>
     simp at hp hq
     rw [← hp,← hq]
     exact .inl (sl_on ho.1 ho.2.1)
   | succ c =>
     have hp':(b :: (r.map (·.1)++[z]))[c]?=some p:=by simpa using hp
     have hq':(b :: (r.map (·.1)++[z]))[c+1]?=some q:=by simpa using hq
     rcases zsz r b t z ho.2.2 he c p q hp' hq' with h | ⟨d,hd,h⟩
     · exact .inr ⟨(b,t),List.mem_cons_self,h⟩
     · exact .inr ⟨d,List.mem_cons_of_mem _ hd,h⟩
theorem nf_sl {l:List Pt} (h:Asc l) (hl:2≤l.length) {c:Nat} {p q:Pt} (hp:(nf l)[c]?=some p) (hq:(nf l)[c+1]?=some q):IsSl l (sl p q):=by
 obtain ⟨a,s,L,z,h1,h2,h3,h4,h5,h6,-⟩:=nf_form2 h hl
 rw [h1] at hp hq
 rcases zsz L a s z h3 h4 c p q hp hq with e | ⟨b,hb,e⟩
 · rw [e]; exact h5
 · rw [e]; exact h6 b hb
theorem zvk:∀ (L:List (Pt×Rat)) (a:Pt) (s:Rat) (b:Pt×Rat),lastB a s (b :: L)∈b :: L
 | [],_,_,_=>List.mem_cons_self
 | c :: L,a,s,b=>List.mem_cons_of_mem _ (zvk L b.1 b.2 c)
theorem nf_pts {l:List Pt} (h:Asc l) (hl:2≤l.length):∀ p∈nf l,p∈bn l∨(∃ c∈bn l,∃ t,IsSl l t∧(p=(c.1 - 1,c.2 - t)∨p=(c.1+1,c.2+t)))∨(∃ c,l.head?=some c∧∃ t,IsSl l t∧(p=(0,ln c t 0)∨p=(1,ln c t 1))):=by
 obtain ⟨a,s,L,z,h1,h2,h3,h4,h5,h6,h7,h8,h9⟩:=nf_form2 h hl
 intro p hp
 rw [h1] at hp
 cases L with
 | nil =>
   obtain ⟨c,hc,e1,e2⟩:=h9 rfl
   have e3:bn l=[]:=by rw [h2]; rfl
   rw [e3] at h7 h8
   right; right
   refine ⟨c,hc,s,h5,?_⟩
   simp at hp
   rcases hp with hp | hp
   · left; rw [hp]; exact Prod.ext h7 e1
   · right; rw [hp]; exact Prod.ext h8 e2
 | cons b L =>
   obtain ⟨b,t⟩:=b
   have hb:b∈bn l:=by rw [h2]; simp
   rcases List.mem_cons.1 hp with hp | hp
   · right; left
     refine ⟨b,hb,s,h5,.inl ?_⟩
     have e1:a.1=b.1 - 1:=by rw [h7,h2]; rfl
     have e2:b.2=ln a s b.1:=h3.2.1
     rw [hp]
     refine Prod.ext e1 ?_
     unfold ln at e2
     rw [e1] at e2
     dsimp only
     grind
   · rcases List.mem_append.1 hp with hp | hp
     · left; rw [h2]; exact hp
     · right; left
       rw [List.mem_singleton] at hp
       have hm:=zvk L a s (b,t)
       refine ⟨(lastB a s ((b,t) :: L)).1,?_,(lastB a s ((b,t) :: L)).2,h6 _ hm,.inr ?_⟩
       · rw [h2]; exact List.mem_map.2 ⟨_,hm,rfl⟩
       · have hg:=zkv L a s (b,t)
         have e1:z.1=(lastB a s ((b,t) :: L)).1.1+1:=by
          rw [h8,h2,hg]; rfl
         have e2:=h4.2
         rw [hp]
         refine Prod.ext e1 ?_
         unfold ln at e2
         rw [e2]
         dsimp only
         rw [e1]
         grind
theorem ex_sl {l:List Pt} {t:Rat} (h:IsSl (ex l) t):∃ s,IsSl l s∧t=s⁻¹:=by
 obtain ⟨c,p,q,h1,h2,h3⟩:=h
 unfold ex at h1 h2
 rw [List.getElem?_map] at h1 h2
 obtain ⟨p',e1,rfl⟩:=Option.map_eq_some_iff.1 h1
 obtain ⟨q',e2,rfl⟩:=Option.map_eq_some_iff.1 h2
 refine ⟨sl p' q',⟨c,p',q',e1,e2,rfl⟩,?_⟩
 rw [h3]
 unfold sl
 dsimp only
 rw [Rat.div_def,Rat.div_def,Rat.inv_mul_rev,Rat.inv_inv]
end Go.Pure
namespace Go.Pure
def In (d:Nat) (r:Rat):Prop:=∃ z:Int,r*(d:Rat)=(z:Rat)
def Ab (M r:Rat):Prop:=-M≤r∧r≤M
theorem In.add {d:Nat} {a b:Rat} (ha:In d a) (hb:In d b):In d (a+b):=by
 obtain ⟨y,hy⟩:=ha
 obtain ⟨z,hz⟩:=hb
 refine ⟨y+z,?_⟩
 rw [Rat.add_mul,hy,hz,Rat.intCast_add]
theorem In.neg {d:Nat} {a:Rat} (ha:In d a):In d (-a):=by
 obtain ⟨y,hy⟩:=ha
 refine ⟨-y,?_⟩
 rw [Rat.neg_mul,hy,Rat.intCast_neg]
theorem In.sub {d:Nat} {a b:Rat} (ha:In d a) (hb:In d b):In d (a - b):=by
 rw [Rat.sub_eq_add_neg]; exact ha.add hb.neg
theorem In.mul {d e:Nat} {a b:Rat} (ha:In d a) (hb:In e b):In (d*e) (a*b):=by
 obtain ⟨y,hy⟩:=ha
 obtain ⟨z,hz⟩:=hb
 refine ⟨y*z,?_⟩
 rw [Rat.intCast_mul,← hy,← hz,Rat.natCast_mul]
 grind
theorem In.dvd {d e:Nat} {a:Rat} (h:In d a) (hd:d ∣ e):In e a:=by
 obtain ⟨y,hy⟩:=h
 obtain ⟨k,rfl⟩:=hd
 refine ⟨y*k,?_⟩
 rw [Rat.intCast_mul,← hy,Rat.natCast_mul,← Rat.mul_assoc]
 rfl
theorem In.int (d:Nat) (n:Int):In d (n:Rat):=⟨n*d,by rw [Rat.intCast_mul]; rfl⟩
theorem In.frac {d:Nat} (z:Int) (h:0 < d):In d ((z:Rat) / (d:Rat)):=⟨z,by
 have:(d:Rat)≠0:=by
  intro h0
  have:d=0:=by exact_mod_cast h0
  omega
 rw [Rat.div_mul_cancel this]⟩
theorem Ab.add {M N a b:Rat} (ha:Ab M a) (hb:Ab N b):Ab (M+N) (a+b):=by
 unfold Ab at *; grind
theorem Ab.sub {M N a b:Rat} (ha:Ab M a) (hb:Ab N b):Ab (M+N) (a - b):=by
 unfold Ab at *; grind
theorem Ab.mono {M N a:Rat} (ha:Ab M a) (h:M≤N):Ab N a:=by
 unfold Ab at *; grind
theorem Ab.mul {M N a b:Rat} (ha:Ab M a) (hb:Ab N b):Ab (M*N) (a*b):=by
 unfold Ab at *
 have h0:0≤(M - a)*(N - b):=Rat.mul_nonneg (by grind) (by grind)
 have h1:0≤(M+a)*(N+b):=Rat.mul_nonneg (by grind) (by grind)
 have h2:0≤(M - a)*(N+b):=Rat.mul_nonneg (by grind) (by grind)
 have h3:0≤(M+a)*(N - b):=Rat.mul_nonneg (by grind) (by grind)
 grind
def Big (d:Nat):Prop:=0 < d∧d≤17632000000000
theorem mk_of {d:Nat} {r:Rat} {z:Int} (hd:0 < d) (h:r*(d:Rat)=(z:Rat)):r=mkRat z d:=by
 have h0:(d:Rat)≠0:=by
  intro h0
  have:d=0:=by exact_mod_cast h0
  omega
 rw [Rat.mkRat_eq_div,← h]
 show r=r*(d:Rat) / (d:Rat)
 rw [Rat.mul_div_cancel h0]
theorem fit_in {d:Nat} {r:Rat} (h:In d r) (hd:Big d) (hm:Ab 65000 r):Fit r:=by
 obtain ⟨z,hz⟩:=h
 obtain ⟨h1,h2⟩:=hd
 have d0:(0:Rat)≤(d:Rat):=by exact_mod_cast Nat.zero_le d
 have u1:(z:Rat)≤((65000*(d:Int):Int):Rat):=by
  rw [← hz,Rat.intCast_mul]
  exact Rat.mul_le_mul_of_nonneg_right hm.2 d0
 have u2:((-(65000*(d:Int)):Int):Rat)≤(z:Rat):=by
  rw [← hz,Rat.intCast_neg,Rat.intCast_mul,← Rat.neg_mul]
  exact Rat.mul_le_mul_of_nonneg_right hm.1 d0
 have v1:=Rat.intCast_le_intCast.1 u1
 have v2:=Rat.intCast_le_intCast.1 u2
 rw [mk_of h1 hz]
 have hne:d≠0:=by omega
 refine ⟨?_,?_⟩
 · rw [Rat.num_mkRat,if_neg hne]
   exact Nat.le_trans (zjK _ _) (by omega)
 · rw [Rat.den_mkRat,if_neg hne]
   exact Nat.le_trans (Nat.div_le_self _ _) (by omega)
structure Lt (l:List Pt) (dx dy ds:Nat):Prop where
 bx:Big dx
 hy:Big dy
 bs:Big ds
 pt:∀ p∈l,In dx p.1∧Ab 20000 p.1∧In dy p.2∧Ab 20000 p.2
 slo:∀ t,IsSl l t→In ds t∧Ab 1300 t
theorem Lt.seg {l:List Pt} {dx dy ds:Nat} (h:Lt l dx dy ds) {i:Nat} {p q:Pt} (hp:l[i]?=some p) (hq:l[i+1]?=some q):SlF p q:=by
 obtain ⟨p1,p2,p3,p4⟩:=h.pt p (List.mem_of_getElem? hp)
 obtain ⟨q1,q2,q3,q4⟩:=h.pt q (List.mem_of_getElem? hq)
 obtain ⟨s1,s2⟩:=h.slo _ ⟨i,p,q,hp,hq,rfl⟩
 exact ⟨fit_in (q3.sub p3) h.hy ((q4.sub p4).mono (by grind)),fit_in (q1.sub p1) h.bx ((q2.sub p2).mono (by grind)),fit_in s1 h.bs (s2.mono (by grind))⟩
theorem Lt.bnF {l:List Pt} {dx dy ds:Nat} (h:Lt l dx dy ds):BnF l:=bnF_of fun _ _ _ hp hq=>h.seg hp hq
theorem Lt.evF {l:List Pt} {dx dy ds:Nat} (h:Lt l dx dy ds) (ha:Asc l) (hl:2≤l.length) {x:Rat} (h1:In dx x) (h2:Ab 20000 x) (h3:In dy (cv l x)) (h4:Ab 20000 (cv l x)):EvF l x:=by
 have e:=cv_pc l x hl
 obtain ⟨i,hp,hq,-,-⟩:=pc_seg ha hl x
 obtain ⟨p1,p2,p3,p4⟩:=h.pt _ (List.mem_of_getElem? hp)
 refine ⟨h.seg hp hq,fit_in (h1.sub p1) h.bx ((h2.sub p2).mono (by grind)),?_,?_⟩
 · have e2:(x - (pc l x).1.1)*sl (pc l x).1 (pc l x).2=cv l x - (pc l x).1.2:=by rw [e]; unfold ln; grind
   rw [e2]
   exact fit_in (h3.sub p3) h.hy ((h4.sub p4).mono (by grind))
 · rw [← e]
   exact fit_in h3 h.hy (h4.mono (by grind))
theorem val_in {l:List Pt} {dx dy ds dz:Nat} (h:∀ p∈l,In dx p.1∧In dy p.2) (hs:∀ t,IsSl l t→In ds t) (ha:Asc l) (hl:2≤l.length) {x:Rat} (hx:In dx x) (h1:dx*ds ∣ dz) (h2:dy ∣ dz):In dz (cv l x):=by
 rw [cv_pc l x hl]
 obtain ⟨i,hp,hq,-,-⟩:=pc_seg ha hl x
 obtain ⟨p1,p3⟩:=h _ (List.mem_of_getElem? hp)
 exact (p3.dvd h2).add (((hx.sub p1).mul (hs _ ⟨i,_,_,hp,hq,rfl⟩)).dvd h1)
theorem val_ab {l:List Pt} {M N S X B:Rat} (h:∀ p∈l,Ab M p.1∧Ab N p.2) (hs:∀ t,IsSl l t→Ab S t) (ha:Asc l) (hl:2≤l.length) {x:Rat} (hx:Ab X x) (hB:N+(X+M)*S≤B):Ab B (cv l x):=by
 rw [cv_pc l x hl]
 obtain ⟨i,hp,hq,-,-⟩:=pc_seg ha hl x
 obtain ⟨p1,p3⟩:=h _ (List.mem_of_getElem? hp)
 exact (p3.add ((hx.sub p1).mul (hs _ ⟨i,_,_,hp,hq,rfl⟩))).mono hB
theorem flatS {l:List Pt} (h:Asc l) (hl:2≤l.length) {u v:Rat} (huv:u < v) (hn:∀ p∈l,¬ (u < p.1∧p.1 < v)):∃ s,IsSl l s∧cv l v - cv l u=(v - u)*s:=by
 obtain ⟨i,p,q,hp,hq,h3,h4⟩:=seg l v hl
 have ev:=ev_at l i v p q h hp hq h3 h4
 have lt:=(zew h hp hq).1
 have eu:cv l u=ln p (sl p q) u:=by
  refine ev_at' h hl hp hq ?_ ?_
  · rcases h3 with h3 | h3
    · exact .inl h3
    · refine .inr ?_
      have:=hn p (List.mem_of_getElem? hp)
      grind
  · rcases h4 with h4 | h4
    · exact .inl h4
    · exact .inr (by grind)
 refine ⟨sl p q,⟨i,p,q,hp,hq,rfl⟩,?_⟩
 rw [ev,eu]; unfold ln; grind
end Go.Pure
namespace Go.Pure
set_option linter.unusedVariables false
structure Lc (l:List Pt) (a b s t:Nat):Prop where
 asc:Asc l
 len:2≤l.length
 pt:∀ p∈l,In a p.1∧Ab 8 p.1∧In b p.2∧Ab 64 p.2
 slo:∀ r,IsSl l r→In s r∧Ab 36 r∧In t r⁻¹∧Ab 36 r⁻¹
theorem lips:∀ (l:List Pt) (S:Rat),Asc l→2≤l.length→(∀ r,IsSl l r→r≤S)→∀ u v,u≤v→cv l v - cv l u≤(v - u)*S
 | [],_,_,h,_,_,_,_=>by simp at h
 | [_],_,_,h,_,_,_,_=>by simp at h
 | p :: q :: r,S,ha,hl,hs,u,v,huv=>by
   have s0:sl p q≤S:=hs _ ⟨0,p,q,rfl,rfl,rfl⟩
   have m0:∀ z:Rat,0≤z→z*sl p q≤z*S:=fun z hz=>Rat.mul_le_mul_of_nonneg_left s0 hz
   by_cases hr:r=[]
   · subst hr
     rw [cv_two,cv_two]
     have:=m0 (v - u) (by grind)
     unfold ln
     grind
   · have ha':=(List.pairwise_cons.1 ha).2
     have hl':2≤(q :: r).length:=by
      cases r with
      | nil=>exact absurd rfl hr
      | cons x r=>simp
     have ih:=lips (q :: r) S ha' hl' (fun t ⟨c,p',q',h1,h2,h3⟩=>hs t ⟨c+1,p',q',by simpa using h1,by simpa using h2,h3⟩)
     have e1:∀ x,x≤q.1→cv (p :: q :: r) x=ln p (sl p q) x:=fun x hx=>by
      rw [show cv (p :: q :: r) x=if r=[]∨x≤q.1 then ln p (sl p q) x else cv (q :: r) x from rfl,if_pos (.inr hx)]
     have e2:∀ x,¬ x≤q.1→cv (p :: q :: r) x=cv (q :: r) x:=fun x hx=>by
      rw [show cv (p :: q :: r) x=if r=[]∨x≤q.1 then ln p (sl p q) x else cv (q :: r) x from rfl,if_neg (fun h=>h.elim hr hx)]
     have eq:cv (q :: r) q.1=q.2:=zjI ha' hl' q (List.mem_cons_self ..)
     have pq:=((List.pairwise_cons.1 ha).1 q (List.mem_cons_self ..)).1
     have el:=ln_sl pq
     by_cases hv:v≤q.1
     · rw [e1 v hv,e1 u (by grind)]
       have:=m0 (v - u) (by grind)
       unfold ln
       grind
     · rw [e2 v hv]
       by_cases hu:u≤q.1
       · rw [e1 u hu]
         have h1:=ih q.1 v (by grind)
         have h2:=m0 (q.1 - u) (by grind)
         rw [eq] at h1
         unfold ln at el ⊢
         grind
       · rw [e2 u hu]
         exact ih u v huv
theorem zqX {xs:List Rat} (h:xs.Pairwise (· < ·)) {c:Nat} {x y z:Rat} (hx:xs[c]?=some x) (hy:xs[c+1]?=some y) (hz:z∈xs):¬ (x < z∧z < y):=fun ⟨h1,h2⟩=>by
 obtain ⟨j,hj⟩:=List.mem_iff_getElem?.1 hz
 obtain ⟨lx,ex⟩:=List.getElem?_eq_some_iff.1 hx
 obtain ⟨ly,ey⟩:=List.getElem?_eq_some_iff.1 hy
 obtain ⟨lz,ez⟩:=List.getElem?_eq_some_iff.1 hj
 have hp:=List.pairwise_iff_getElem.1 h
 by_cases hc:j≤c
 · by_cases he:j=c
   · subst he; grind
   · have:=hp j c lz lx (by omega); grind
 · by_cases he:j=c+1
   · subst he; grind
   · have:=hp (c+1) j ly lz (by omega); grind
variable {F G:List Pt} {xs:List Rat}
theorem cps_sl (hF:Asc F) (hF2:2≤F.length) (hG:Asc G) (hG2:2≤G.length) (hx:Places F G xs) {t:Rat} (h:IsSl (cps F G xs) t):∃ s1 s2,IsSl F s1∧IsSl G s2∧t=s1*s2:=by
 obtain ⟨c,p,q,hp,hq,rfl⟩:=h
 unfold cps at hp hq
 rw [List.getElem?_map] at hp hq
 obtain ⟨x,hx1,rfl⟩:=Option.map_eq_some_iff.1 hp
 obtain ⟨y,hy1,rfl⟩:=Option.map_eq_some_iff.1 hq
 have hlt:x < y:=by
  obtain ⟨lx,ex⟩:=List.getElem?_eq_some_iff.1 hx1
  obtain ⟨ly,ey⟩:=List.getElem?_eq_some_iff.1 hy1
  have:=List.pairwise_iff_getElem.1 hx.1 c (c+1) lx ly (by omega)
  grind
 obtain ⟨s1,h1,e1⟩:=flatS hF hF2 hlt (fun p hp=>zqX hx.1 hx1 hy1 ((hx.2 p.1).2 (.inl ⟨p,hp,rfl⟩)))
 have hlt2:cv F x < cv F y:=zd7 hF hF2 hlt
 obtain ⟨s2,h2,e2⟩:=flatS hG hG2 hlt2 (fun q hq hb=>by
  have hz:cv (ex F) q.1∈xs:=(hx.2 _).2 (.inr ⟨q,hq,rfl⟩)
  refine zqX hx.1 hx1 hy1 hz ⟨(ev_lt hF hF2).1 ?_,(ev_lt hF hF2).1 ?_⟩
  · rw [zsG hF hF2]; exact hb.1
  · rw [zsG hF hF2]; exact hb.2)
 refine ⟨s1,s2,h1,h2,?_⟩
 unfold sl
 dsimp only
 rw [e2,e1]
 have hne:y - x≠0:=by grind
 rw [Rat.mul_assoc,Rat.mul_comm (y - x),Rat.mul_div_cancel hne]
structure Dn (a b s t a' b' s' t' DX DE VF VE:Nat):Prop where
 g1:Big DX
 g2:Big DE
 g3:Big VF
 g4:Big VE
 g5:Big (s*s')
 g6:Big (b*a')
 g7:Big s
 g8:Big s'
 g9:Big t
 d1:a ∣ DX
 d2:b*a'*t ∣ DX
 d3:b' ∣ VE
 d4:b*a'*s' ∣ VE
 d5:DE ∣ DX
 d6:a ∣ DE
 d7:DE*s ∣ VF
 d8:b ∣ VF
 d9:a' ∣ VF
 d10:VF*s' ∣ VE
theorem chain_fits {a b s t a' b' s' t' DX DE VF VE:Nat} (hF:Lc F a b s t) (hG:Lc G a' b' s' t') (D:Dn a b s t a' b' s' t' DX DE VF VE) (hx:Places F G xs) (h2:2≤xs.length)
  (hE:bn (cps F G xs)=[]∨DX ∣ DE) :
  CpF F G xs∧∀ m:Int,0≤m→m≤5→EvF F (m:Rat)∧EvF G (cv F (m:Rat))∧EvF (nf (cps F G xs)) (m:Rat):=by
 have aF:=hF.asc
 have lF:=hF.len
 have aG:=hG.asc
 have lG:=hG.len
 have aX:=ex_asc aF
 have lX:2≤(ex F).length:=by rw [ex_len]; exact lF
 have sX:∀ r,IsSl (ex F) r→In t r∧Ab 36 r:=fun r hr=>by
  obtain ⟨z,hz,rfl⟩:=ex_sl hr
  exact ⟨(hF.slo z hz).2.2.1,(hF.slo z hz).2.2.2⟩
 have mX:∀ p∈ex F,∃ q∈F,p=(q.2,q.1):=fun p hp=>by
  obtain ⟨q,hq,rfl⟩:=List.mem_map.1 hp
  exact ⟨q,hq,rfl⟩
 have pX:∀ p∈ex F,In (b*a') p.1∧In a p.2:=fun p hp=>by
  obtain ⟨q,hq,rfl⟩:=mX p hp
  exact ⟨(hF.pt q hq).2.2.1.dvd (Nat.dvd_mul_right ..),(hF.pt q hq).1⟩
 have bX:∀ p∈ex F,Ab 64 p.1∧Ab 8 p.2:=fun p hp=>by
  obtain ⟨q,hq,rfl⟩:=mX p hp
  exact ⟨(hF.pt q hq).2.2.2,(hF.pt q hq).2.1⟩
 have vX:∀ q∈G,In DX (cv (ex F) q.1)∧Ab 2600 (cv (ex F) q.1):=fun q hq=>by
  obtain ⟨q1,q2,q3,q4⟩:=hG.pt q hq
  exact ⟨val_in pX (fun r hr=>(sX r hr).1) aX lX (q1.dvd (Nat.dvd_mul_left ..)) D.d2 D.d1,val_ab bX (fun r hr=>(sX r hr).2) aX lX q2 (by grind)⟩
 have LX:Lt (ex F) (b*a') DX t:=⟨D.g6,D.g1,D.g9,fun p hp=>⟨(pX p hp).1,(bX p hp).1.mono (by grind),(pX p hp).2.dvd D.d1,(bX p hp).2.mono (by grind)⟩,fun r hr=>⟨(sX r hr).1,(sX r hr).2.mono (by grind)⟩⟩
 have c1:∀ q∈G,EvF (ex F) q.1:=fun q hq=>by
  obtain ⟨q1,q2,q3,q4⟩:=hG.pt q hq
  exact LX.evF aX lX (q1.dvd (Nat.dvd_mul_left ..)) (q2.mono (by grind)) (vX q hq).1 ((vX q hq).2.mono (by grind))
 have vP:∀ x∈xs,In DX x∧Ab 2600 x∧In (b*a') (cv F x)∧Ab 64 (cv F x):=fun x hxs=>by
  rcases (hx.2 x).1 hxs with ⟨p,hp,rfl⟩ | ⟨q,hq,rfl⟩
  · obtain ⟨p1,p2,p3,p4⟩:=hF.pt p hp
    rw [zjI aF lF p hp]
    exact ⟨p1.dvd D.d1,p2.mono (by grind),p3.dvd (Nat.dvd_mul_right ..),p4⟩
  · obtain ⟨q1,q2,q3,q4⟩:=hG.pt q hq
    rw [zsG aF lF]
    exact ⟨(vX q hq).1,(vX q hq).2,q1.dvd (Nat.dvd_mul_left ..),q2.mono (by grind)⟩
 have pG:∀ q∈G,In (b*a') q.1∧In b' q.2:=fun q hq=>⟨(hG.pt q hq).1.dvd (Nat.dvd_mul_left ..),(hG.pt q hq).2.2.1⟩
 have bG:∀ q∈G,Ab 8 q.1∧Ab 64 q.2:=fun q hq=>⟨(hG.pt q hq).2.1,(hG.pt q hq).2.2.2⟩
 have sG:∀ r,IsSl G r→In s' r∧Ab 36 r:=fun r hr=>⟨(hG.slo r hr).1,(hG.slo r hr).2.1⟩
 have sF:∀ r,IsSl F r→In s r∧Ab 36 r:=fun r hr=>⟨(hF.slo r hr).1,(hF.slo r hr).2.1⟩
 have vY:∀ x∈xs,In VE (cv G (cv F x))∧Ab 2656 (cv G (cv F x)):=fun x hxs=>by
  obtain ⟨-,-,x3,x4⟩:=vP x hxs
  exact ⟨val_in pG (fun r hr=>(sG r hr).1) aG lG x3 D.d4 D.d3,val_ab bG (fun r hr=>(sG r hr).2) aG lG x4 (by grind)⟩
 have g4:=D.g4
 have LF:Lt F DX (b*a') s:=⟨D.g1,D.g6,D.g7,fun p hp=>⟨(hF.pt p hp).1.dvd D.d1,(hF.pt p hp).2.1.mono (by grind),(hF.pt p hp).2.2.1.dvd (Nat.dvd_mul_right ..),(hF.pt p hp).2.2.2.mono (by grind)⟩,fun r hr=>⟨(sF r hr).1,(sF r hr).2.mono (by grind)⟩⟩
 have LG:Lt G (b*a') VE s':=⟨D.g6,D.g4,D.g8,fun p hp=>⟨(pG p hp).1,(bG p hp).1.mono (by grind),(pG p hp).2.dvd D.d3,(bG p hp).2.mono (by grind)⟩,fun r hr=>⟨(sG r hr).1,(sG r hr).2.mono (by grind)⟩⟩
 have c2:∀ x∈xs,EvF F x∧EvF G (cv F x):=fun x hxs=>by
  obtain ⟨x1,x2,x3,x4⟩:=vP x hxs
  exact ⟨LF.evF aF lF x1 (x2.mono (by grind)) x3 (x4.mono (by grind)),LG.evF aG lG x3 (x4.mono (by grind)) (vY x hxs).1 ((vY x hxs).2.mono (by grind))⟩
 have aC:=cps_asc aF lF aG lG hx.1
 have lC:2≤(cps F G xs).length:=by unfold cps; rw [List.length_map]; exact h2
 have vC:∀ x,cv (cps F G xs) x=cv G (cv F x):=fun x=>cps_cv aF lF aG lG hx.1 h2 (fun p hp=>(hx.2 _).2 (.inl ⟨p,hp,rfl⟩)) (fun q hq=>(hx.2 _).2 (.inr ⟨q,hq,rfl⟩)) x
 have mC:∀ p∈cps F G xs,p.1∈xs∧p=(p.1,cv G (cv F p.1)):=fun p hp=>by
  obtain ⟨x,hxs,rfl⟩:=List.mem_map.1 hp
  exact ⟨hxs,rfl⟩
 have pC:∀ p∈cps F G xs,In DX p.1∧Ab 20000 p.1∧In VE p.2∧Ab 20000 p.2:=fun p hp=>by
  obtain ⟨m1,m2⟩:=mC p hp
  rw [m2]
  exact ⟨(vP _ m1).1,(vP _ m1).2.1.mono (by grind),(vY _ m1).1,(vY _ m1).2.mono (by grind)⟩
 have sC:∀ r,IsSl (cps F G xs) r→In (s*s') r∧Ab 1300 r:=fun r hr=>by
  obtain ⟨s1,s2,h1,h2,rfl⟩:=cps_sl aF lF aG lG hx hr
  exact ⟨(sF _ h1).1.mul (sG _ h2).1,((sF _ h1).2.mul (sG _ h2).2).mono (by grind)⟩
 have LC:Lt (cps F G xs) DX VE (s*s'):=⟨D.g1,D.g4,D.g5,pC,sC⟩
 have pF':∀ p∈F,In DE p.1∧In b p.2:=fun p hp=>⟨(hF.pt p hp).1.dvd D.d6,(hF.pt p hp).2.2.1⟩
 have bF:∀ p∈F,Ab 8 p.1∧Ab 64 p.2:=fun p hp=>⟨(hF.pt p hp).2.1,(hF.pt p hp).2.2.2⟩
 have val:∀ e,In DE e→Ab 532 (cv F e)→In VF (cv F e)∧In VE (cv G (cv F e))∧Ab 20000 (cv G (cv F e)):=fun e h1 h3=>by
  have w:=val_in pF' (fun r hr=>(sF r hr).1) aF lF h1 D.d7 D.d8
  exact ⟨w,val_in (fun q hq=>⟨(hG.pt q hq).1.dvd D.d9,(hG.pt q hq).2.2.1⟩) (fun r hr=>(sG r hr).1) aG lG w D.d10 D.d3,val_ab bG (fun r hr=>(sG r hr).2) aG lG h3 (by grind)⟩
 have small:∀ n:Int,-10≤n→n≤10→Ab 10 (n:Rat):=fun n h1 h2=>by
  have e1:((-10:Int):Rat)≤(n:Rat):=Rat.intCast_le_intCast.2 h1
  have e2:(n:Rat)≤((10:Int):Rat):=Rat.intCast_le_intCast.2 h2
  exact ⟨e1,e2⟩
 have near:∀ n:Int,0≤n→n≤5→Ab 532 (cv F (n:Rat)):=fun n h1 h2=>by
  have e1:((0:Int):Rat)≤(n:Rat):=Rat.intCast_le_intCast.2 h1
  have e2:(n:Rat)≤((5:Int):Rat):=Rat.intCast_le_intCast.2 h2
  have e3:Ab 5 (n:Rat):=⟨by simp at e1; grind,e2⟩
  exact val_ab bF (fun r hr=>(sF r hr).2) aF lF e3 (by grind)
 have evC:∀ e,In DE e→Ab 20000 e→Ab 532 (cv F e)→EvF (cps F G xs) e:=fun e h1 h2 h3=>by
  have w:=val e h1 h3
  refine LC.evF aC lC (h1.dvd D.d5) h2 ?_ ?_
  · rw [vC]; exact w.2.1
  · rw [vC]; exact w.2.2
 have bend:∀ x∈xs,∀ n:Int,(n=1∨n=-1)→DX ∣ DE→In DE (x+(n:Rat))∧Ab 2610 (x+(n:Rat))∧Ab 532 (cv F (x+(n:Rat))):=fun x hxs n hn hd=>by
  obtain ⟨x1,x2,x3,x4⟩:=vP x hxs
  refine ⟨(x1.add (In.int DX n)).dvd hd,(x2.add (small n (by omega) (by omega))).mono (by grind),?_⟩
  have hs:∀ r,IsSl F r→r≤36:=fun r hr=>(sF r hr).2.2
  rcases hn with rfl | rfl
  · have u:=lips F 36 aF lF hs x (x+((1:Int):Rat)) (by simp; grind)
    have v:=zd7 aF lF (x:=x) (y:=x+((1:Int):Rat)) (by simp; grind)
    unfold Ab at *
    simp only [Rat.intCast_one] at *
    grind
  · have u:=lips F 36 aF lF hs (x+((-1:Int):Rat)) x (by simp; grind)
    have v:=zd7 aF lF (x:=x+((-1:Int):Rat)) (y:=x) (by simp; grind)
    have e:((-1:Int):Rat)=-1:=rfl
    unfold Ab at *
    rw [e] at *
    grind
 have ends:(In DE (lf (bn (cps F G xs)))∧Ab 2610 (lf (bn (cps F G xs)))∧Ab 532 (cv F (lf (bn (cps F G xs)))))∧In DE (rt (bn (cps F G xs)))∧Ab 2610 (rt (bn (cps F G xs)))∧Ab 532 (cv F (rt (bn (cps F G xs)))):=by
  have hsub:∀ p∈bn (cps F G xs),p.1∈xs:=fun p hp=>(mC p ((bn_sub _).mem hp)).1
  generalize hb:bn (cps F G xs)=B at *
  cases B with
  | nil =>
    have z0:=near 0 (by omega) (by omega)
    have z1:=near 1 (by omega) (by omega)
    exact ⟨⟨In.int DE 0,(small 0 (by omega) (by omega)).mono (by grind),z0⟩,In.int DE 1,(small 1 (by omega) (by omega)).mono (by grind),z1⟩
  | cons p r =>
    have hd:DX ∣ DE:=hE.resolve_left (fun h=>by cases h)
    have h1:=bend p.1 (hsub p (List.mem_cons_self ..)) (-1) (.inr rfl) hd
    have h2:=bend ((p :: r).getLast (by simp)).1 (hsub _ (List.getLast_mem _)) 1 (.inl rfl) hd
    have e:p.1+((-1:Int):Rat)=lf (p :: r):=by
     show p.1+((-1:Int):Rat)=p.1 - 1
     rw [Rat.sub_eq_add_neg]; rfl
    rw [e] at h1
    exact ⟨h1,h2⟩
 obtain ⟨⟨l1,l2,l3⟩,r1,r2,r3⟩:=ends
 have nF:NfF (cps F G xs):=⟨LC.bnF,fit_in l1 D.g2 (l2.mono (by grind)),fit_in r1 D.g2 (r2.mono (by grind)),evC _ l1 (l2.mono (by grind)) l3,evC _ r1 (r2.mono (by grind)) r3⟩
 refine ⟨⟨c1,c2,nF⟩,fun m m0 m5=>?_⟩
 have hm:=In.int DE m
 have am:Ab 20000 (m:Rat):=(small m (by omega) (by omega)).mono (by grind)
 have vm:=near m m0 m5
 have w:=val _ hm vm
 refine ⟨?_,?_,?_⟩
 · have L:Lt F DE VF s:=⟨D.g2,D.g3,D.g7,fun p hp=>⟨(pF' p hp).1,(bF p hp).1.mono (by grind),(pF' p hp).2.dvd D.d8,(bF p hp).2.mono (by grind)⟩,fun r hr=>⟨(sF r hr).1,(sF r hr).2.mono (by grind)⟩⟩
   exact L.evF aF lF hm am w.1 (vm.mono (by grind))
 · have L:Lt G VF VE s':=⟨D.g3,D.g4,D.g8,fun p hp=>⟨(hG.pt p hp).1.dvd D.d9,(bG p hp).1.mono (by grind),(pG p hp).2.dvd D.d3,(bG p hp).2.mono (by grind)⟩,fun r hr=>⟨(sG r hr).1,(sG r hr).2.mono (by grind)⟩⟩
   exact L.evF aG lG w.1 (vm.mono (by grind)) w.2.1 w.2.2
 · have wl:=val _ l1 l3
   have wr:=val _ r1 r3
   have L:Lt (nf (cps F G xs)) DX VE (s*s'):=⟨D.g1,D.g4,D.g5,fun p hp=>by
     unfold nf at hp
     rcases List.mem_cons.1 hp with rfl | hp
     · exact ⟨l1.dvd D.d5,l2.mono (by grind),by rw [vC]; exact wl.2.1,by rw [vC]; exact wl.2.2⟩
     · rcases List.mem_append.1 hp with hp | hp
       · exact pC p ((bn_sub _).mem hp)
       · rw [List.mem_singleton.1 hp]
         exact ⟨r1.dvd D.d5,r2.mono (by grind),by rw [vC]; exact wr.2.1,by rw [vC]; exact wr.2.2⟩,fun r ⟨c,p,q,hp,hq,e⟩=>by
     rw [e]
     exact sC _ (nf_sl aC lC hp hq)⟩
   refine L.evF (asc_nf aC lC) nf_len (hm.dvd D.d5) am ?_ ?_
   · rw [ev_nf aC lC,vC]; exact w.2.1
   · rw [ev_nf aC lC,vC]; exact w.2.2
end Go.Pure
namespace Go.Pure
set_option linter.unusedVariables false
structure Fr (a:Nat→Rat) (n N:Nat) (A:Nat→Int) (c:Nat→Nat):Prop where
 sh:Sh a n
 pos:0 < N
 le:N≤36
 len:n≤6
 eq:∀ i,a i=(A i:Rat) / (N:Rat)
 step:∀ i,i < n→A (i+1) - A i=(c i:Int)∧c i ∣ 6∧c i≤N
theorem natNe {N:Nat} (h:0 < N):(N:Rat)≠0:=by
 intro h0
 have:N=0:=by exact_mod_cast h0
 omega
theorem Fr.diff {a:Nat→Rat} {n N:Nat} {A:Nat→Int} {c:Nat→Nat} (h:Fr a n N A c) {i:Nat} (hi:i < n):a (i+1) - a i=(c i:Rat) / (N:Rat):=by
 rw [h.eq,h.eq]
 have e:(A (i+1):Rat) - (A i:Rat)=((c i:Int):Rat):=by rw [← (h.step i hi).1,Rat.intCast_sub]
 have e2:(c i:Rat)=((c i:Int):Rat):=rfl
 rw [e2,← e,Rat.div_def,Rat.div_def,Rat.div_def]
 grind
theorem pos6 {c:Nat} (h:c ∣ 6):0 < c:=Nat.pos_of_dvd_of_pos h (by omega)
theorem slope_in {N M c e:Nat} (hN:0 < N) (hM:0 < M) (hM2:M≤36) (hc:c ∣ 6) (hcN:c≤N) (he:e ∣ 6):In (6*N) (((c:Rat) / (N:Rat)) / ((e:Rat) / (M:Rat)))∧Ab 36 (((c:Rat) / (N:Rat)) / ((e:Rat) / (M:Rat))):=by
 have nN:=natNe hN
 have nM:=natNe hM
 have ne:=natNe (pos6 he)
 obtain ⟨k,hk⟩:=he
 have e6:(e:Rat)*(k:Rat)=6:=by
  have:((e*k:Nat):Rat)=((6:Nat):Rat):=by rw [← hk]
  rw [Rat.natCast_mul] at this
  exact this
 have form:((c:Rat) / (N:Rat)) / ((e:Rat) / (M:Rat))=(c:Rat)*(M:Rat)*((N:Rat)⁻¹*(e:Rat)⁻¹):=by
  rw [Rat.div_def,Rat.div_def,Rat.div_def,Rat.inv_mul_rev,Rat.inv_inv]
  grind
 have i1:(N:Rat)*(N:Rat)⁻¹=1:=Rat.mul_inv_cancel _ nN
 have i2:(e:Rat)*(e:Rat)⁻¹=1:=Rat.mul_inv_cancel _ ne
 refine ⟨⟨(c*M*k:Nat),?_⟩,?_⟩
 · rw [form]
   show _=((c*M*k:Nat):Rat)
   rw [Rat.natCast_mul,Rat.natCast_mul,Rat.natCast_mul]
   show _*((6:Rat)*(N:Rat))=_
   rw [← e6]
   grind
 · have p0:(0:Rat)≤(c:Rat):=by exact_mod_cast Nat.zero_le c
   have p1:(0:Rat) < (N:Rat):=by exact_mod_cast hN
   have p2:(0:Rat)≤(M:Rat):=by exact_mod_cast Nat.zero_le M
   have p3:(M:Rat)≤36:=by exact_mod_cast hM2
   have p4:(c:Rat)≤(N:Rat):=by exact_mod_cast hcN
   have p5:(1:Rat)≤(e:Rat):=by exact_mod_cast (Nat.pos_of_ne_zero (fun h=>ne (by rw [h]; rfl)))
   have q0:0≤(N:Rat)⁻¹:=Rat.le_of_lt (Rat.inv_pos.2 p1)
   have q1:0≤(e:Rat)⁻¹:=Rat.le_of_lt (Rat.inv_pos.2 (by grind))
   have r1:(c:Rat)*(N:Rat)⁻¹≤1:=by
    have:=Rat.mul_le_mul_of_nonneg_right p4 q0
    grind
   have r0:0≤(c:Rat)*(N:Rat)⁻¹:=Rat.mul_nonneg p0 q0
   have r2:(M:Rat)*(e:Rat)⁻¹≤36:=by
    have h1:=Rat.mul_le_mul_of_nonneg_right p5 q1
    have h2:=Rat.mul_le_mul_of_nonneg_right p3 q1
    grind
   have r3:0≤(M:Rat)*(e:Rat)⁻¹:=Rat.mul_nonneg p2 q1
   have f2:((c:Rat) / (N:Rat)) / ((e:Rat) / (M:Rat))=((c:Rat)*(N:Rat)⁻¹)*((M:Rat)*(e:Rat)⁻¹):=by rw [form]; grind
   rw [f2]
   have u:Ab 1 ((c:Rat)*(N:Rat)⁻¹):=⟨by grind,r1⟩
   have v:Ab 36 ((M:Rat)*(e:Rat)⁻¹):=⟨by grind,r2⟩
   exact (u.mul v).mono (by grind)
theorem Qs_in {a:Nat→Rat} {n N M:Nat} {A:Nat→Int} {c:Nat→Nat} (h:Fr a n N A c) (hM:0 < M) {i:Nat} (hi:i < n) {s:Rat} {B:Int} (hs:s=a (i+1)∨s=(B:Rat) / (M:Rat)) (h1:a i≤s) (h2:s≤a (i+1)):In (12*M) (Qs a i s)∧Ab 6 (Qs a i s):=by
 obtain ⟨s1,s2,s3⟩:=h.step i hi
 have nN:=natNe h.pos
 have nM:=natNe hM
 have nc:=natNe (pos6 s2)
 have hd:=h.diff hi
 have i0:(i:Rat)≤5:=by
  have:=h.len
  exact_mod_cast (show i≤5 by omega)
 have i1:(0:Rat)≤(i:Rat):=by exact_mod_cast Nat.zero_le i
 have half:In (12*M) ((i:Rat) - 1 / 2):=⟨12*M*i - 6*M,by
  rw [Rat.intCast_sub,Rat.intCast_mul,Rat.intCast_mul,Rat.intCast_mul,Rat.natCast_mul]
  show ((i:Rat) - 1 / 2)*((12:Rat)*(M:Rat))=(12:Rat)*(M:Rat)*(i:Rat) - (6:Rat)*(M:Rat)
  grind⟩
 have dpos:0 < a (i+1) - a i:=by
  have:=h.sh.up i hi
  grind
 have dne:a (i+1) - a i≠0:=by grind
 have ab:Ab 6 (Qs a i s):=by
  have g0:0≤(s - a i) / (a (i+1) - a i):=by
   rw [Rat.div_def]; exact Rat.mul_nonneg (by grind) (Rat.le_of_lt (Rat.inv_pos.2 dpos))
  have g1:(s - a i) / (a (i+1) - a i)≤1:=by
   rw [Rat.div_def]
   have:=Rat.mul_le_mul_of_nonneg_right (show s - a i≤a (i+1) - a i by grind) (Rat.le_of_lt (Rat.inv_pos.2 dpos))
   rw [Rat.mul_inv_cancel _ dne] at this
   exact this
  unfold Qs Ab
  grind
 refine ⟨?_,ab⟩
 rcases hs with rfl | rfl
 · rw [Qs_1 (by grind)]
   have:In (12*M) (((i:Rat) - 1 / 2)+((1:Int):Rat)):=half.add (In.int _ 1)
   have e:((i+1:Nat):Rat) - 1 / 2=(i:Rat) - 1 / 2+((1:Int):Rat):=by
    rw [Rat.natCast_add]
    show (i:Rat)+1 - 1 / 2=(i:Rat) - 1 / 2+1
    grind
   rw [e]; exact this
 · unfold Qs
   refine half.add (In.dvd (d:=6*M) ?_ ⟨2,by omega⟩)
   obtain ⟨k,hk⟩:=s2
   have e6:(c i:Rat)*(k:Rat)=6:=by
    have:((c i*k:Nat):Rat)=((6:Nat):Rat):=by rw [← hk]
    rw [Rat.natCast_mul] at this
    exact this
   have j1:(N:Rat)*(N:Rat)⁻¹=1:=Rat.mul_inv_cancel _ nN
   have j2:(c i:Rat)*(c i:Rat)⁻¹=1:=Rat.mul_inv_cancel _ nc
   have j3:(M:Rat)*(M:Rat)⁻¹=1:=Rat.mul_inv_cancel _ nM
   refine ⟨(B*N - A i*M)*k,?_⟩
   rw [hd,h.eq i,Rat.intCast_mul,Rat.intCast_sub,Rat.intCast_mul,Rat.intCast_mul,Rat.natCast_mul]
   show ((B:Rat) / (M:Rat) - (A i:Rat) / (N:Rat)) / ((c i:Rat) / (N:Rat))*((6:Rat)*(M:Rat))=((B:Rat)*(N:Rat) - (A i:Rat)*(M:Rat))*(k:Rat)
   rw [← e6,Rat.div_def,Rat.div_def,Rat.div_def,Rat.div_def,Rat.inv_mul_rev,Rat.inv_inv]
   grind
theorem pts_Lc {a b:Nat→Rat} {n m N M:Nat} {A B:Nat→Int} {c d:Nat→Nat} (ha:Fr a n N A c) (hb:Fr b m M B d) :
  Lc (nf (pts a b n m)) (12*M) (12*N) (6*N) (6*M):=by
 have sa:=ha.sh
 have sb:=hb.sh
 have hA:=pts_asc sa sb
 have hL:=(pts_len sa sb).1
 have sl1:∀ t,IsSl (pts a b n m) t→In (6*N) t∧Ab 36 t∧In (6*M) t⁻¹∧Ab 36 t⁻¹:=fun t ⟨k,p,q,hp,hq,e⟩=>by
  obtain ⟨i,j,hi,hj,e2⟩:=pts_sl sa sb k p q hp hq
  rw [e,e2,ha.diff hi,hb.diff hj]
  have f:=slope_in ha.pos hb.pos hb.le (ha.step i hi).2.1 (ha.step i hi).2.2 (hb.step j hj).2.1
  have g:=slope_in hb.pos ha.pos ha.le (hb.step j hj).2.1 (hb.step j hj).2.2 (ha.step i hi).2.1
  have ei:(((c i:Rat) / (N:Rat)) / ((d j:Rat) / (M:Rat)))⁻¹=((d j:Rat) / (M:Rat)) / ((c i:Rat) / (N:Rat)):=by
   rw [Rat.div_def ((c i:Rat) / (N:Rat)),Rat.inv_mul_rev,Rat.inv_inv,Rat.div_def ((d j:Rat) / (M:Rat))]
  rw [ei]
  exact ⟨f.1,f.2,g.1,g.2⟩
 have half:∀ K:Nat,In (12*K) (-1 / 2:Rat):=fun K=>⟨-(6*K),by
  rw [Rat.intCast_neg,Rat.intCast_mul,Rat.natCast_mul]
  show (-1 / 2:Rat)*((12:Rat)*(K:Rat))=-((6:Rat)*(K:Rat))
  grind⟩
 have pt:∀ p∈pts a b n m,In (12*M) p.1∧Ab 6 p.1∧In (12*N) p.2∧Ab 6 p.2:=fun p hp=>by
  rcases pts_is sa sb p hp with rfl | ⟨i,j,s,hi,hj,h1,h2,h3,h4,h5,rfl⟩
  · exact ⟨half M,⟨by grind,by grind⟩,half N,⟨by grind,by grind⟩⟩
  · have u:In (12*M) (Qs a i s)∧Ab 6 (Qs a i s):=Qs_in (B:=B (j+1)) ha hb.pos hi (h5.imp id (fun h=>by rw [h,hb.eq])) h1 h2
    have v:In (12*N) (Qs b j s)∧Ab 6 (Qs b j s):=Qs_in (B:=A (i+1)) hb ha.pos hj (h5.symm.imp id (fun h=>by rw [h,ha.eq])) h3 h4
    exact ⟨u.1,u.2,v.1,v.2⟩
 have one:∀ K:Nat,In K (1:Rat):=fun K=>In.int K 1
 have zero:∀ K:Nat,In K (0:Rat):=fun K=>In.int K 0
 refine ⟨asc_nf hA hL,nf_len,fun p hp=>?_,fun r ⟨k,p,q,hp,hq,e⟩=>by rw [e]; exact sl1 _ (nf_sl hA hL hp hq)⟩
 rcases nf_pts hA hL p hp with h | ⟨q,hq,t,ht,h⟩ | ⟨q,hq,t,ht,h⟩
 · obtain ⟨p1,p2,p3,p4⟩:=pt p ((bn_sub _).mem h)
   exact ⟨p1,p2.mono (by grind),p3,p4.mono (by grind)⟩
 · obtain ⟨p1,p2,p3,p4⟩:=pt q ((bn_sub _).mem hq)
   obtain ⟨t1,t2,-,-⟩:=sl1 t ht
   have t3:In (12*N) t:=t1.dvd ⟨2,by omega⟩
   rcases h with rfl | rfl
   · exact ⟨p1.sub (one _),by unfold Ab at *; grind,p3.sub t3,by unfold Ab at *; grind⟩
   · exact ⟨p1.add (one _),by unfold Ab at *; grind,p3.add t3,by unfold Ab at *; grind⟩
 · have hq2:q=(-1 / 2,-1 / 2):=by
    unfold pts at hq
    simpa using hq.symm
   subst hq2
   obtain ⟨t1,t2,-,-⟩:=sl1 t ht
   have h2:In 2 (1 / 2:Rat):=⟨1,by
    show (1 / 2:Rat)*2=1
    grind⟩
   have t3:In (12*N) ((1 / 2)*t):=(h2.mul t1).dvd ⟨1,by omega⟩
   have t4:In (12*N) t:=t1.dvd ⟨2,by omega⟩
   rcases h with rfl | rfl
   · refine ⟨zero _,⟨by grind,by grind⟩,?_,?_⟩
     · have e:ln (-1 / 2,-1 / 2) t 0=-1 / 2+(1 / 2)*t:=by unfold ln; grind
       show In (12*N) (ln (-1 / 2,-1 / 2) t 0)
       rw [e]
       exact (half N).add t3
     · unfold ln Ab at *; grind
   · refine ⟨one _,⟨by grind,by grind⟩,?_,?_⟩
     · have e:ln (-1 / 2,-1 / 2) t 1=-1 / 2+((1 / 2)*t+t):=by unfold ln; grind
       show In (12*N) (ln (-1 / 2,-1 / 2) t 1)
       rw [e]
       exact (half N).add (t3.add t4)
     · unfold ln Ab at *; grind
theorem bn_flat:∀ (l:List Pt),(∀ t u,IsSl l t→IsSl l u→t=u)→bn l=[]
 | [],_=>rfl
 | [_],_=>rfl
 | [_,_],_=>rfl
 | p :: q :: s :: r,h=>by
   have e:sl q s=sl p q:=h _ _ ⟨1,q,s,rfl,rfl,rfl⟩ ⟨0,p,q,rfl,rfl,rfl⟩
   unfold bn
   rw [if_pos e]
   exact bn_flat (q :: s :: r) (fun t u ⟨c,p1,q1,h1,h2,h3⟩ ⟨d,p2,q2,h4,h5,h6⟩=>h t u ⟨c+1,p1,q1,by simpa using h1,by simpa using h2,h3⟩ ⟨d+1,p2,q2,by simpa using h4,by simpa using h5,h6⟩)
def lin (s t:Rat):List Pt:=[(0,t),(1,s+t)]
theorem lin_sl {s t r:Rat} (h:IsSl (lin s t) r):r=s:=by
 obtain ⟨c,p,q,hp,hq,rfl⟩:=h
 have hc:c=0:=by
  have:=(List.getElem?_eq_some_iff.1 hq).1
  simp [lin] at this
  omega
 subst hc
 simp [lin] at hp hq
 subst hp; subst hq
 unfold sl
 rw [Rat.div_def]
 grind
theorem lin_cv (s t x:Rat):cv (lin s t) x=t+x*s:=by
 rw [lin,cv_two,show sl (0,t) (1,s+t)=s from (lin_sl (s:=s) (t:=t) ⟨0,_,_,rfl,rfl,rfl⟩)]
 unfold ln
 grind
theorem lin_Lc {s t:Rat} {b e:Nat} (h0:0 < s) (h1:In b s) (h2:Ab 36 s) (h3:In e s⁻¹) (h4:Ab 36 s⁻¹) (h5:In b t) (h6:Ab 64 t) (h7:Ab 64 (s+t)):Lc (lin s t) 1 b b e where
 asc:=by
  unfold Asc lin
  simp only [List.pairwise_cons,List.mem_singleton,forall_eq,List.not_mem_nil,false_imp_iff,implies_true,List.Pairwise.nil,and_true]
  grind
 len:=by simp [lin]
 pt:=fun p hp=>by
  simp only [lin,List.mem_cons,List.not_mem_nil,or_false] at hp
  rcases hp with rfl | rfl
  · exact ⟨In.int 1 0,by unfold Ab; grind,h5,h6⟩
  · exact ⟨In.int 1 1,by unfold Ab; grind,h1.add h5,h7⟩
 slo:=fun r hr=>by
  rw [lin_sl hr]
  exact ⟨h1,h2,h3,h4⟩
theorem lin_bn {s t s' t':Rat} {xs:List Rat} (h1:Asc (lin s t)) (h2:Asc (lin s' t')) (hx:Places (lin s t) (lin s' t') xs):bn (cps (lin s t) (lin s' t') xs)=[]:=
 bn_flat _ fun t u ht hu=>by
  have l1:2≤(lin s t).length:=by simp [lin]
  have l2:∀ s t:Rat,2≤(lin s t).length:=fun s t=>by simp [lin]
  obtain ⟨a,b,ha,hb,rfl⟩:=cps_sl h1 (l2 _ _) h2 (l2 _ _) hx ht
  obtain ⟨c,d,hc,hd,rfl⟩:=cps_sl h1 (l2 _ _) h2 (l2 _ _) hx hu
  rw [lin_sl ha,lin_sl hb,lin_sl hc,lin_sl hd]
end Go.Pure
namespace Go.Pure
set_option linter.unusedVariables false
theorem natPos {n:Nat} (h:0 < n):(0:Rat) < (n:Rat):=by exact_mod_cast h
theorem lin_dist {n m D E:Nat} {S T:Int} {al ep mA mX s:Rat} (hn:0 < n) (hm:0 < m) (hD:0 < D) (hE:0 < E)
  (ha:al=(D:Rat) / ((n*n:Nat):Rat)) (he:ep=(E:Rat) / ((m*m:Nat):Rat)) (hA:mA=(T:Rat) / (n:Rat)) (hX:mX=(S:Rat) / (m:Rat))
  (a1:2*al≤5) (a2:1≤6*al) (e1:2*ep≤5) (e2:1≤6*ep) (A0:0≤mA) (A1:mA≤5) (X0:0≤mX) (X1:mX≤16*ep) (hs:s=al / ep) :
  0 < s∧In (E*(n*n)) s∧Ab 15 s∧In (D*(m*m)) s⁻¹∧Ab 36 s⁻¹∧In (E*(n*n)) (mA - s*mX)∧Ab 40 (mA - s*mX):=by
 subst hs
 have n0:=natNe hn
 have m0:=natNe hm
 have D0:=natNe hD
 have E0:=natNe hE
 have ap:0 < al:=by grind
 have epp:0 < ep:=by grind
 have a0:al≠0:=by grind
 have ep0:ep≠0:=by grind
 have eiv:0 < ep⁻¹:=Rat.inv_pos.2 epp
 have aiv:0 < al⁻¹:=Rat.inv_pos.2 ap
 have ei:ep*ep⁻¹=1:=Rat.mul_inv_cancel _ ep0
 have ai:al*al⁻¹=1:=Rat.mul_inv_cancel _ a0
 have e6:ep⁻¹≤6:=by
  have:=Rat.mul_le_mul_of_nonneg_right e2 (Rat.le_of_lt eiv)
  grind
 have a6:al⁻¹≤6:=by
  have:=Rat.mul_le_mul_of_nonneg_right a2 (Rat.le_of_lt aiv)
  grind
 have kn:al*((n:Rat)*(n:Rat))=(D:Rat):=by
  rw [ha,Rat.natCast_mul,Rat.div_mul_cancel]
  intro h
  rcases Rat.mul_eq_zero.1 h with h | h
  · exact n0 h
  · exact n0 h
 have km:ep*((m:Rat)*(m:Rat))=(E:Rat):=by
  rw [he,Rat.natCast_mul,Rat.div_mul_cancel]
  intro h
  rcases Rat.mul_eq_zero.1 h with h | h
  · exact m0 h
  · exact m0 h
 have kA:mA*(n:Rat)=(T:Rat):=by rw [hA,Rat.div_mul_cancel n0]
 have kX:mX*(m:Rat)=(S:Rat):=by rw [hX,Rat.div_mul_cancel m0]
 have sd:al / ep=al*ep⁻¹:=Rat.div_def _ _
 have si:(al / ep)⁻¹=ep*al⁻¹:=by rw [Rat.div_def,Rat.inv_mul_rev,Rat.inv_inv]
 have aA:Ab 3 al:=⟨by grind,by grind⟩
 have aE:Ab 3 ep:=⟨by grind,by grind⟩
 have sE:al*ep⁻¹*(E:Rat)=al*((m:Rat)*(m:Rat)):=by rw [← km]; grind
 have f1:In (E*(n*n)) (al*ep⁻¹):=⟨D*m*m,by
  rw [Rat.intCast_mul,Rat.intCast_mul,Rat.natCast_mul,Rat.natCast_mul]
  show al*ep⁻¹*((E:Rat)*((n:Rat)*(n:Rat)))=(D:Rat)*(m:Rat)*(m:Rat)
  grind⟩
 have s15:al*ep⁻¹≤15:=by
  have h1:=Rat.mul_le_mul_of_nonneg_right a1 (Rat.le_of_lt eiv)
  grind
 have s0:0 < al*ep⁻¹:=Rat.mul_pos ap eiv
 have i15:ep*al⁻¹≤15:=by
  have h1:=Rat.mul_le_mul_of_nonneg_right e1 (Rat.le_of_lt aiv)
  grind
 have i0:0 < ep*al⁻¹:=Rat.mul_pos epp aiv
 rw [si,sd]
 refine ⟨s0,f1,⟨by grind,s15⟩,⟨E*n*n,?_⟩,⟨by grind,by grind⟩,In.sub ⟨T*(E*n),?_⟩ ⟨D*m*S,?_⟩,?_⟩
 · rw [Rat.intCast_mul,Rat.intCast_mul,Rat.natCast_mul,Rat.natCast_mul]
   show ep*al⁻¹*((D:Rat)*((m:Rat)*(m:Rat)))=(E:Rat)*(n:Rat)*(n:Rat)
   grind
 · rw [Rat.intCast_mul,Rat.intCast_mul,Rat.natCast_mul,Rat.natCast_mul]
   show mA*((E:Rat)*((n:Rat)*(n:Rat)))=(T:Rat)*((E:Rat)*(n:Rat))
   grind
 · rw [Rat.intCast_mul,Rat.intCast_mul,Rat.natCast_mul,Rat.natCast_mul]
   show al*ep⁻¹*mX*((E:Rat)*((n:Rat)*(n:Rat)))=(D:Rat)*(m:Rat)*(S:Rat)
   grind
 · have u:0≤al*ep⁻¹*mX:=Rat.mul_nonneg (Rat.le_of_lt s0) X0
   have v:al*ep⁻¹*mX≤40:=by
    have h1:=Rat.mul_le_mul_of_nonneg_left X1 (Rat.le_of_lt s0)
    have h2:al*ep⁻¹*(16*ep)=16*al:=by
     have:al*ep⁻¹*(16*ep)=16*al*(ep*ep⁻¹):=by grind
     rw [this,ei]; grind
    rw [h2] at h1
    clear ai ei kn km kA kX sE f1
    grind
   clear ai ei kn km kA kX sE f1
   unfold Ab
   grind
theorem big_mul {a b:Nat} (ha:0 < a) (hb:0 < b) (ha2:a≤4199040) (hb2:b≤4199040):Big (a*b):=
 ⟨Nat.mul_pos ha hb,Nat.le_trans (Nat.mul_le_mul ha2 hb2) (by omega)⟩
theorem dn_lin {b e b' e':Nat} (hb:0 < b) (he:0 < e) (hb':0 < b') (he':0 < e') (kb:b≤4199040) (ke:e≤4199040) (kb':b'≤4199040) (ke':e'≤4199040) :
  Dn 1 b b e 1 b' b' e' (b*e) 1 b (b*b') where
 g1:=big_mul hb he kb ke
 g2:=⟨by omega,by omega⟩
 g3:=⟨hb,by omega⟩
 g4:=big_mul hb hb' kb kb'
 g5:=big_mul hb hb' kb kb'
 g6:=⟨by omega,by omega⟩
 g7:=⟨hb,by omega⟩
 g8:=⟨hb',by omega⟩
 g9:=⟨he,by omega⟩
 d1:=Nat.one_dvd _
 d2:=by rw [Nat.mul_one]; exact Nat.dvd_refl _
 d3:=Nat.dvd_mul_left ..
 d4:=by rw [Nat.mul_one]; exact Nat.dvd_refl _
 d5:=Nat.one_dvd _
 d6:=Nat.dvd_refl _
 d7:=by rw [Nat.one_mul]; exact Nat.dvd_refl _
 d8:=Nat.dvd_refl _
 d9:=Nat.one_dvd _
 d10:=Nat.dvd_refl _
theorem zoL {a b A B:Nat} (h1:a≤A) (h2:b≤B):a*b≤A*B:=Nat.mul_le_mul h1 h2
theorem dn_pct {N M N' M':Nat} (h1:0 < N) (h2:0 < M) (h3:0 < N') (h4:0 < M') (k1:N≤36) (k2:M≤36) (k3:N'≤36) (k4:M'≤36) :
  Dn (12*M) (12*N) (6*N) (6*M) (12*M') (12*N') (6*N') (6*M') (12*N*(12*M')*(6*M)) (12*N*(12*M')*(6*M)) (12*N*(12*M')*(6*M)*(6*N)) (12*N*(12*M')*(6*M)*(6*N)*(6*N')):=by
 have p1:0 < 12*N*(12*M'):=Nat.mul_pos (by omega) (by omega)
 have p2:0 < 12*N*(12*M')*(6*M):=Nat.mul_pos p1 (by omega)
 have p3:0 < 12*N*(12*M')*(6*M)*(6*N):=Nat.mul_pos p2 (by omega)
 have p4:0 < 12*N*(12*M')*(6*M)*(6*N)*(6*N'):=Nat.mul_pos p3 (by omega)
 have q1:12*N*(12*M')≤432*432:=zoL (by omega) (by omega)
 have q2:12*N*(12*M')*(6*M)≤432*432*216:=zoL q1 (by omega)
 have q3:12*N*(12*M')*(6*M)*(6*N)≤432*432*216*216:=zoL q2 (by omega)
 have q4:12*N*(12*M')*(6*M)*(6*N)*(6*N')≤432*432*216*216*216:=zoL q3 (by omega)
 exact {
  g1:=⟨p2,by omega⟩
  g2:=⟨p2,by omega⟩
  g3:=⟨p3,by omega⟩
  g4:=⟨p4,by omega⟩
  g5:=⟨Nat.mul_pos (by omega) (by omega),Nat.le_trans (zoL (A:=216) (B:=216) (by omega) (by omega)) (by omega)⟩
  g6:=⟨p1,by omega⟩
  g7:=⟨by omega,by omega⟩
  g8:=⟨by omega,by omega⟩
  g9:=⟨by omega,by omega⟩
  d1:=⟨12*N*(12*M') / 2,by
   obtain ⟨z,hz⟩:∃ z,N*(12*M')=z:=⟨_,rfl⟩
   rw [Nat.mul_assoc 12 N,hz,show 12*z / 2=6*z by omega]
   have e:12*z*(6*M)=72*(z*M):=by rw [Nat.mul_mul_mul_comm]
   have e2:12*M*(6*z)=72*(M*z):=by rw [Nat.mul_mul_mul_comm]
   rw [e,e2,Nat.mul_comm z M]⟩
  d2:=Nat.dvd_refl _
  d3:=⟨12*N*(12*M')*(6*M)*(6*N) / 2,by
   obtain ⟨z,hz⟩:∃ z,N*(12*M')*(6*M)*(6*N)=z:=⟨_,rfl⟩
   have h0:12*N*(12*M')*(6*M)*(6*N)=12*z:=by rw [← hz]; simp only [Nat.mul_assoc]
   rw [h0,show 12*z / 2=6*z by omega]
   have e:12*z*(6*N')=72*(z*N'):=by rw [Nat.mul_mul_mul_comm]
   have e2:12*N'*(6*z)=72*(N'*z):=by rw [Nat.mul_mul_mul_comm]
   rw [e,e2,Nat.mul_comm z N']⟩
  d4:=⟨6*M*(6*N),by simp only [Nat.mul_assoc,Nat.mul_left_comm,Nat.mul_comm]⟩
  d5:=Nat.dvd_refl _
  d6:=⟨12*N*(12*M') / 2,by
   obtain ⟨z,hz⟩:∃ z,N*(12*M')=z:=⟨_,rfl⟩
   rw [Nat.mul_assoc 12 N,hz,show 12*z / 2=6*z by omega]
   have e:12*z*(6*M)=72*(z*M):=by rw [Nat.mul_mul_mul_comm]
   have e2:12*M*(6*z)=72*(M*z):=by rw [Nat.mul_mul_mul_comm]
   rw [e,e2,Nat.mul_comm z M]⟩
  d7:=Nat.dvd_refl _
  d8:=⟨12*M'*(6*M)*(6*N),by simp only [Nat.mul_assoc]⟩
  d9:=⟨12*N*(6*M)*(6*N),by simp only [Nat.mul_assoc,Nat.mul_left_comm,Nat.mul_comm]⟩
  d10:=Nat.dvd_refl _ }
end Go.Pure
namespace Go.Proofs.YtbhkcgaanaelfaaGreat
open Go.Ab Go.Pure
set_option linter.unusedSimpArgs false
set_option linter.unusedVariables false
set_option maxRecDepth 20000
def isC (c:Int):Prop:=c=1∨c=2∨c=3∨c=6
def Full (x:List Int):Prop:=x≠[]∧x.length≤6∧∀ c∈x,isC c
theorem sum_le6:∀ (l:List Int),(∀ c∈l,isC c)→l.sum≤6*l.length
 | [],_=>by simp
 | c :: l,h=>by
   have h1:=sum_le6 l (fun c hc=>h c (List.mem_cons_of_mem _ hc))
   have h2:c≤6:=by rcases h c (List.mem_cons_self ..) with h | h | h | h <;> omega
   simp only [List.sum_cons,List.length_cons]
   omega
theorem Full.fd {x:List Int} (h:Full x):FD x:=by
 have h1:∀ c∈x,1≤c:=fun c hc=>by rcases h.2.2 c hc with h | h | h | h <;> omega
 have h2:=sum_le6 x h.2.2
 have h3:=List.length_pos_iff.2 h.1
 have h4:=h.2.1
 exact ⟨⟨by omega,by omega,fun c hc=>by have:=h1 c hc; omega,by omega⟩,h1⟩
theorem Full.sum {x:List Int} (h:Full x):1≤x.sum∧x.sum≤36:=by
 have h1:=h.fd.sum
 have h2:=sum_le6 x h.2.2
 have h4:=h.2.1
 omega
def lists:Nat→List (List Int)
 | 0=>[[]]
 | k+1=>(lists k).flatMap fun l=>[1 :: l,2 :: l,3 :: l,6 :: l]
theorem zvu:∀ l:List Int,(∀ c∈l,isC c)→l∈lists l.length
 | [],_=>by simp [lists]
 | c :: l,h=>by
   have h1:=zvu l (fun c hc=>h c (List.mem_cons_of_mem _ hc))
   show c :: l∈(lists l.length).flatMap fun l=>[1 :: l,2 :: l,3 :: l,6 :: l]
   rw [List.mem_flatMap]
   refine ⟨l,h1,?_⟩
   rcases h c (List.mem_cons_self ..) with rfl | rfl | rfl | rfl <;> simp
def chkD (n S D:Int):Bool:=decide (0≤S) && (decide (S≤5*n) && (decide (D=0) || (decide (2*D≤5*(n*n)) && (decide (n*n≤6*D) && (decide (S*n≤16*D) && decide (D≤3240))))))
def chk1 (n S:Int) (l:List Int):Bool:=chkD n S (dv n S 0 l)
def chk0 (l:List Int):Bool:=chk1 l.sum (sc 0 l) l
theorem chk_all:((List.range 6).all fun k=>(lists (k+1)).all chk0)=true:=by kernel_rfl
theorem Full.chk {x:List Int} (h:Full x):chk0 x=true:=by
 have h1:=chk_all
 rw [List.all_eq_true] at h1
 have h3:=List.length_pos_iff.2 h.1
 have h4:=h.2.1
 have h2:=h1 (x.length - 1) (List.mem_range.2 (by omega))
 rw [List.all_eq_true] at h2
 refine h2 x ?_
 rw [show x.length - 1+1=x.length by omega]
 exact zvu x h.2.2
theorem natI {n:Int} (h:0≤n):((n.toNat:Nat):Rat)=(n:Rat):=by
 have e:((n.toNat:Nat):Rat)=(((n.toNat:Nat):Int):Rat):=rfl
 rw [e,Int.toNat_of_nonneg h]
theorem Full.fr {x:List Int} (h:Full x):Fr (shr x) x.length x.sum.toNat (fun i=>(x.take i).sum) (fun i=>(x[i]?.getD 1).toNat) where
 sh:=h.fd.sh
 pos:=by have:=h.sum; omega
 le:=by have:=h.sum; omega
 len:=h.2.1
 eq:=fun i=>by
  have:=h.sum
  rw [natI (by omega)]
  rfl
 step:=fun i hi=>by
  have e:x[i]?.getD 1=x[i]:=by rw [List.getElem?_eq_getElem hi]; rfl
  have hc:=h.2.2 _ (List.getElem_mem hi)
  have ht:=zgJ hi
  have h5:x[i]≤x.sum:=by
   have h0:=h.fd.take i
   have h1:=zgC x (i+1)
   have h2:=zoG (l:=x) (fun c hc=>by rcases h.2.2 c hc with h | h | h | h <;> omega) (i+1)
   omega
  simp only [e]
  refine ⟨?_,?_,?_⟩
  · rw [ht]
    rcases hc with h | h | h | h <;> rw [h] <;> omega
  · rcases hc with h | h | h | h <;> rw [h] <;> decide
  · omega
structure Nm (x:List Int) (n D:Nat) (S:Int):Prop where
 n0:0 < n
 n1:n≤36
 mn:mn x=(S:Rat) / (n:Rat)
 dv:dvn x=(D:Rat) / ((n*n:Nat):Rat)
 m0:0≤Go.Proofs.YtbhkcgaanaelfaaGreat.mn x
 m5:Go.Proofs.YtbhkcgaanaelfaaGreat.mn x≤5
 pos:0 < D→D≤3240∧2*dvn x≤5∧1≤6*dvn x∧Go.Proofs.YtbhkcgaanaelfaaGreat.mn x≤16*dvn x
theorem zmd {a b k:Rat} (hk:0 < k) (h:a*k≤b*k):a≤b:=by
 have h1:=Rat.mul_le_mul_of_nonneg_right h (Rat.le_of_lt (Rat.inv_pos.2 hk))
 rw [Rat.mul_assoc,Rat.mul_assoc,Rat.mul_inv_cancel _ (by grind),Rat.mul_one,Rat.mul_one] at h1
 exact h1
theorem Full.num {x:List Int} (h:Full x):∃ (n D:Nat) (S:Int),Nm x n D S:=by
 have hs:=h.sum
 have hck:=h.chk
 have hvd:=h.fd.1
 have hD0:=(dv_bd x.sum (sc 0 x) hvd.sum (by have:=hvd.sc 0 (by omega); rw [List.drop_zero] at this; exact this) x 0 hvd.2.2.1 (by have:=h.2.1; omega)).1
 unfold chk0 chk1 chkD at hck
 simp only [Bool.and_eq_true,Bool.or_eq_true,decide_eq_true_eq] at hck
 obtain ⟨S0,S5,hr⟩:=hck
 have en:((x.sum.toNat:Nat):Int)=x.sum:=by omega
 have np:(0:Rat) < ((x.sum.toNat:Nat):Rat):=natPos (by omega)
 have nn:((x.sum.toNat:Nat):Rat)≠0:=by grind
 have e1:mn x=(sc 0 x:Rat) / ((x.sum.toNat:Nat):Rat):=by unfold mn; rw [Rat.mkRat_eq_div]
 have esq:(x.sum*x.sum).toNat=x.sum.toNat*x.sum.toNat:=by
  have:(x.sum*x.sum)=((x.sum.toNat*x.sum.toNat:Nat):Int):=by rw [Int.natCast_mul,en]
  rw [this]; rfl
 have e2:dvn x=(((dv x.sum (sc 0 x) 0 x).toNat:Nat):Rat) / ((x.sum.toNat*x.sum.toNat:Nat):Rat):=by
  unfold dvn; rw [Rat.mkRat_eq_div,esq,natI hD0]
 have m1:mn x*((x.sum.toNat:Nat):Rat)=(sc 0 x:Rat):=by rw [e1,Rat.div_mul_cancel nn]
 have cS0:((0:Int):Rat)≤(sc 0 x:Rat):=Rat.intCast_le_intCast.2 S0
 have cS5:(sc 0 x:Rat)≤((5*x.sum:Int):Rat):=Rat.intCast_le_intCast.2 S5
 have nI:((x.sum.toNat:Nat):Rat)=(x.sum:Rat):=natI (by omega)
 refine ⟨x.sum.toNat,(dv x.sum (sc 0 x) 0 x).toNat,sc 0 x,by omega,by omega,e1,e2,zmd np ?_,zmd np ?_,fun hp=>?_⟩
 · rw [m1,Rat.zero_mul]; exact cS0
 · rw [m1,nI]
   rw [Rat.intCast_mul] at cS5
   exact cS5
 · rcases hr with hr | ⟨r1,r2,r3,r4⟩
   · rw [hr] at hp; exact absurd hp (by decide)
   · have sqp:(0:Rat) < ((x.sum.toNat:Nat):Rat)*((x.sum.toNat:Nat):Rat):=Rat.mul_pos np np
     have d1:dvn x*(((x.sum.toNat:Nat):Rat)*((x.sum.toNat:Nat):Rat))=(dv x.sum (sc 0 x) 0 x:Rat):=by
      rw [e2,natI hD0,Rat.natCast_mul,Rat.div_mul_cancel (by grind)]
     have c1:((2*dv x.sum (sc 0 x) 0 x:Int):Rat)≤((5*(x.sum*x.sum):Int):Rat):=Rat.intCast_le_intCast.2 r1
     have c2:((x.sum*x.sum:Int):Rat)≤((6*dv x.sum (sc 0 x) 0 x:Int):Rat):=Rat.intCast_le_intCast.2 r2
     have c3:((sc 0 x*x.sum:Int):Rat)≤((16*dv x.sum (sc 0 x) 0 x:Int):Rat):=Rat.intCast_le_intCast.2 r3
     rw [Rat.intCast_mul,Rat.intCast_mul,Rat.intCast_mul,← nI,← d1] at c1
     rw [Rat.intCast_mul,Rat.intCast_mul,← nI,← d1] at c2
     rw [Rat.intCast_mul,Rat.intCast_mul,← nI,← d1,← m1] at c3
     refine ⟨by omega,zmd sqp ?_,zmd sqp ?_,zmd sqp ?_⟩
     · rw [Rat.mul_assoc]; exact c1
     · rw [Rat.one_mul,Rat.mul_assoc]; exact c2
     · rw [Rat.mul_assoc 16,← Rat.mul_assoc (mn x)]; exact c3
end Go.Proofs.YtbhkcgaanaelfaaGreat
namespace Go.Proofs.YtbhkcgaanaelfaaGreat
open Go.Ab Go.Pure
set_option linter.unusedSimpArgs false
set_option linter.unusedVariables false
set_option maxRecDepth 20000
theorem zug {s a b:Rat} (hs:Fit s) (ha:Fit a) (hb:Fit b) (h0:0 < s) (h1:Fit (s*a)) (h2:Fit (b - s*a)) (h3:Fit (s+(b - s*a))) :
  cw zb8 [aR s,aR a,aR b] []=some (zfi (cF (lin s (b - s*a)),0)):=by
 have hn:¬ (ofR s).Num≤0:=by
  intro hc
  have h:0≤(-s).num:=by
   show 0≤-s.num
   have:s.num≤0:=hc
   omega
  have:=Rat.num_nonneg.1 h
  grind
 have hl:cw zfJ [aR s,aR (b - s*a)] []=some (zfF (cF (lin s (b - s*a)),0)):=by
  refine zdO _ _ ?_
  rw [zdM,zaY,decide_eq_true (fit_VR hs),brn_nt,zdM,zaY,decide_eq_true (fit_VR h2),brn_nt,zag,if_neg hn,znj _ _ hs h2,zdR,zcU h3,brn_f (by rfl),zjp,zbb,zjp,zbb]
  rfl
 refine zfo _ _ _ ?_
 rw [zme _ _ hs ha,zdj,zcU h1,brn_f (by rfl),zoV _ _ hb h1,zfx,zcU h2,brn_f (by rfl),hl,zhy]
 rfl
theorem Full.ok {x y:List Int} (hx:Full x) (hy:Full y):¬ badD x y:=fun h=>by
 have h1:=hx.sum
 have h2:=hy.sum
 rcases h with h | h | h
 · exact h ⟨hx.fd.1,hy.fd.1⟩
 · omega
 · omega
structure LnOk (s t:Rat) (b e:Nat):Prop where
 lc:Lc (lin s t) 1 b b e
 b0:0 < b
 b1:b≤4199040
 e0:0 < e
 e1:e≤4199040
 s0:0 < s
 s1:s≤15
 t0:-40≤t
theorem big1 {b:Nat} (h0:0 < b) (h:b≤4199040):Big b:=⟨h0,by omega⟩
theorem c_EMeanF {x y:List Int} (hx:Full x) (hy:Full y):∃ s t b e,cw zfq [aD x,aD y] []=some (ziQ (cF (lin s t),0))∧LnOk s t b e:=by
 obtain ⟨n,D,S,nx⟩:=hx.num
 obtain ⟨m,E,T,ny⟩:=hy.num
 have hb:=hx.ok hy
 have hxs:=hx.sum
 have hys:=hy.sum
 have B:=zrw x y
 rw [if_neg hb] at B
 have ix:In n (mn x):=by rw [nx.mn]; exact In.frac S nx.n0
 have iy:In m (mn y):=by rw [ny.mn]; exact In.frac T ny.n0
 have b1:n*m≤36*36:=Nat.mul_le_mul nx.n1 ny.n1
 have b0:0 < n*m:=Nat.mul_pos nx.n0 ny.n0
 have it:In (n*m) (mn y - 1*mn x):=by rw [Rat.one_mul]; exact (iy.dvd (Nat.dvd_mul_left ..)).sub (ix.dvd (Nat.dvd_mul_right ..))
 have p1:=nx.m0
 have p2:=nx.m5
 have p3:=ny.m0
 have p4:=ny.m5
 have at':Ab 5 (mn y - 1*mn x):=by unfold Ab; grind
 have i1:In (n*m) (1:Rat):=In.int _ 1
 have bg:=big1 b0 (by omega)
 have f1:Fit (1*mn x):=by rw [Rat.one_mul]; exact (ze7 hx.fd.1 (by omega)).2.2
 have one:(1:Rat)⁻¹=1:=by decide +kernel
 refine ⟨1,mn y - 1*mn x,n*m,1,?_,lin_Lc (by grind) i1 ⟨by grind,by grind⟩ (by rw [one]; exact In.int 1 1) (by rw [one]; exact ⟨by grind,by grind⟩) it (at'.mono (by grind)) (by unfold Ab at *; grind),b0,by omega,by omega,by omega,by grind,by grind,by unfold Ab at at'; grind⟩
 refine zn1 _ _ ?_
 rw [B,zaR,brn_f (by rfl)]
 show callD zcC (cw zb8 [aR 1,aR (mn x),aR (mn y)] []) _=_
 rw [zug fit1 (ze7 hx.fd.1 (by omega)).2.2 (ze7 hy.fd.1 (by omega)).2.2 (by grind) f1 (fit_in it bg (at'.mono (by grind))) (fit_in (i1.add it) bg (by unfold Ab at *; grind)),zfg]
 rfl
theorem frac0 {D k:Nat} {r:Rat} (h:r=(D:Rat) / (k:Rat)) (hr:r≠0):0 < D:=by
 rcases Nat.eq_zero_or_pos D with h0 | h0
 · subst h0
   exact absurd (by rw [h,Rat.div_def]; exact Rat.zero_mul _) hr
 · exact h0
theorem ztE {x y:List Int} (hx:Full x) (hy:Full y):(∃ e:Int,e≠0∧cw zeI [aD x,aD y] []=some (zeD (⟨[]⟩,e)))∨∃ s t b e,cw zeI [aD x,aD y] []=some (zeD (cF (lin s t),0))∧LnOk s t b e:=by
 obtain ⟨n,D,S,nx⟩:=hx.num
 obtain ⟨m,E,T,ny⟩:=hy.num
 have hb:=hx.ok hy
 have hxs:=hx.sum
 have hys:=hy.sum
 have B:=zrw x y
 have C:=c_bothD x y
 rw [if_neg hb] at B C
 have fx:=(zk4 hx.fd.1 (by omega)).2.2
 have fy:=(zk4 hy.fd.1 (by omega)).2.2
 by_cases d1:(dvn x).num=0
 · refine .inl ⟨10,by decide,zbY _ _ ?_⟩
   rw [C,zaR,brn_f (by rfl)]
   show brn ((dvn x).num == 0) _ _=_
   rw [d1]; rfl
 · by_cases d2:(dvn y).num=0
   · refine .inl ⟨10,by decide,zbY _ _ ?_⟩
     rw [C,zaR,brn_f (by rfl)]
     show brn ((dvn x).num == 0) _ (brn ((dvn y).num == 0) _ _)=_
     rw [brn_f (beq_false_of_ne d1),d2]; rfl
   · have n1:dvn x≠0:=fun h=>d1 (by rw [h]; rfl)
     have n2:dvn y≠0:=fun h=>d2 (by rw [h]; rfl)
     have D0:=frac0 nx.dv n1
     have E0:=frac0 ny.dv n2
     obtain ⟨x1,x2,x3,x4⟩:=nx.pos D0
     obtain ⟨y1,y2,y3,y4⟩:=ny.pos E0
     obtain ⟨g1,g2,g3,g4,g5,g6,g7⟩:=lin_dist ny.n0 nx.n0 E0 D0 ny.dv nx.dv ny.mn nx.mn y2 y3 x2 x3 ny.m0 ny.m5 nx.m0 x4 (rfl:dvn y / dvn x=dvn y / dvn x)
     generalize hs:dvn y / dvn x=s at *
     have k1:D*(m*m)≤4199040:=Nat.le_trans (Nat.mul_le_mul x1 (Nat.mul_le_mul ny.n1 ny.n1)) (by omega)
     have k2:E*(n*n)≤4199040:=Nat.le_trans (Nat.mul_le_mul y1 (Nat.mul_le_mul nx.n1 nx.n1)) (by omega)
     have k3:0 < D*(m*m):=Nat.mul_pos D0 (Nat.mul_pos ny.n0 ny.n0)
     have k4:0 < E*(n*n):=Nat.mul_pos E0 (Nat.mul_pos nx.n0 nx.n0)
     have bg:=big1 k3 k1
     have hf:Fit s:=fit_in g2 bg (g3.mono (by grind))
     have ft:=fit_in g6 bg (g7.mono (by grind))
     have fst:=fit_in (g2.add g6) bg ((g3.add g7).mono (by grind))
     have iy:In (D*(m*m)) (mn y):=by
      rw [ny.mn]; exact (In.frac T ny.n0).dvd ⟨D*m,by simp only [Nat.mul_assoc,Nat.mul_left_comm,Nat.mul_comm]⟩
     have fsa:Fit (s*mn x):=by
      have e:s*mn x=mn y - (mn y - s*mn x):=by grind
      have p3:=ny.m0
      have p4:=ny.m5
      rw [e]
      exact fit_in (iy.sub g6) bg (by unfold Ab at *; grind)
     have p3:=ny.m0
     have p4:=ny.m5
     refine .inr ⟨s,mn y - s*mn x,D*(m*m),E*(n*n),zbY _ _ ?_,lin_Lc g1 g2 (g3.mono (by grind)) g4 g5 g6 (g7.mono (by grind)) ((g3.add g7).mono (by grind)),k3,k1,k4,k2,g1,g3.2,g7.1⟩
     rw [C,zaR,brn_f (by rfl)]
     show brn ((dvn x).num == 0) _ (brn ((dvn y).num == 0) _ _)=_
     rw [brn_f (beq_false_of_ne d1),brn_f (beq_false_of_ne d2),B,zaR,brn_f (by rfl)]
     show callD zf1 (cw zcV [aR (dvn y),aR (dvn x)] []) _=_
     rw [c_DivF _ _ fy fx n1,zgM,hs,zcU hf,brn_f (by rfl)]
     show callD zcC (cw zb8 [aR s,aR (mn x),aR (mn y)] []) _=_
     rw [zug hf (ze7 hx.fd.1 (by omega)).2.2 (ze7 hy.fd.1 (by omega)).2.2 g1 fsa ft fst,zfg]
     rfl
structure PairOk (F G:List Pt):Prop where
 h:CpH F G
 c:CpF F G (plc F G)
 e:∀ m:Int,0≤m→m≤5→EvF F (m:Rat)∧EvF G (cv F (m:Rat))∧EvF (nf (cps F G (plc F G))) (m:Rat)
 low:-1000 < cv G (cv F 0)
theorem zpL (F G:List Pt):Places F G (plc F G):=⟨plc_asc F G,fun x=>by
 rw [zm8]
 unfold raws
 simp only [List.mem_append,List.mem_map]⟩
theorem pair_of {F G:List Pt} {a b s t a' b' s' t' DX DE VF VE:Nat} (hF:Lc F a b s t) (hG:Lc G a' b' s' t') (D:Dn a b s t a' b' s' t' DX DE VF VE) (hl:F.length+G.length < 100)
  (hE:bn (cps F G (plc F G))=[]∨DX ∣ DE) (low:-1000 < cv G (cv F 0)):PairOk F G:=by
 have h:CpH F G:=⟨hF.asc,hF.len,fun p hp=>by
   obtain ⟨p1,p2,p3,p4⟩:=hF.pt p hp
   exact ⟨fit_in (p1.dvd D.d1) D.g1 (p2.mono (by grind)),fit_in (p3.dvd (Nat.dvd_mul_right ..)) D.g6 (p4.mono (by grind))⟩,hG.asc,hG.len,fun p hp=>by
   obtain ⟨p1,p2,p3,p4⟩:=hG.pt p hp
   exact ⟨fit_in (p1.dvd (Nat.dvd_mul_left ..)) D.g6 (p2.mono (by grind)),fit_in (p3.dvd D.d3) D.g4 (p4.mono (by grind))⟩,hl⟩
 have c:=chain_fits hF hG D (zpL F G) (plc_two h) hE
 exact ⟨h,c.1,c.2,low⟩
theorem pair_lin {s t s' t':Rat} {b e b' e':Nat} (h1:LnOk s t b e) (h2:LnOk s' t' b' e'):PairOk (lin s t) (lin s' t'):=by
 refine pair_of h1.lc h2.lc (dn_lin h1.b0 h1.e0 h2.b0 h2.e0 h1.b1 h1.e1 h2.b1 h2.e1) (by simp [lin]) (.inl (lin_bn h1.lc.asc h2.lc.asc (zpL _ _))) ?_
 rw [lin_cv,lin_cv]
 have e:t+0*s=t:=by grind
 rw [e]
 have t0:=h1.t0
 have t1:=h2.t0
 have s0:=h2.s0
 have s1:=h2.s1
 have:-40*s'≤t*s':=Rat.mul_le_mul_of_nonneg_right t0 (Rat.le_of_lt s0)
 grind
theorem pair_pct {x a b y:List Int} (hx:Full x) (ha:Full a) (hb:Full b) (hy:Full y):PairOk (nf (pcP x a)) (nf (pcP b y)):=by
 have l1:=pcP_len hx.fd ha.fd
 have l2:=pcP_len hb.fd hy.fd
 have n1:=hx.2.1
 have n2:=ha.2.1
 have n3:=hb.2.1
 have n4:=hy.2.1
 have m1:(nf (pcP x a)).length≤(pcP x a).length:=by
  have:=bn_len (pcP x a) l1.1
  unfold nf; simp; omega
 have m2:(nf (pcP b y)).length≤(pcP b y).length:=by
  have:=bn_len (pcP b y) l2.1
  unfold nf; simp; omega
 have fx:=hx.fr
 have fa:=ha.fr
 have fb:=hb.fr
 have fy:=hy.fr
 refine pair_of (pts_Lc fx fa) (pts_Lc fb fy) (dn_pct fx.pos fa.pos fb.pos fy.pos fx.le fa.le fb.le fy.le) (by show (nf (pcP x a)).length+(nf (pcP b y)).length < 100; omega) (.inr (Nat.dvd_refl _)) ?_
 have A1:=pcP_asc hx.fd ha.fd
 have A2:=pcP_asc hb.fd hy.fd
 show -1000 < cv (nf (pcP b y)) (cv (nf (pcP x a)) 0)
 rw [ev_nf A1 l1.1,ev_nf A2 l2.1]
 have h1:cv (pcP x a) (-1 / 2)=-1 / 2:=zjI A1 l1.1 (-1 / 2,-1 / 2) (by unfold pcP pts; exact List.mem_cons_self ..)
 have h2:cv (pcP b y) (-1 / 2)=-1 / 2:=zjI A2 l2.1 (-1 / 2,-1 / 2) (by unfold pcP pts; exact List.mem_cons_self ..)
 have u:=zd7 A1 l1.1 (show (-1 / 2:Rat) < 0 by grind)
 rw [h1] at u
 have v:=zd7 A2 l2.1 u
 rw [h2] at v
 grind
end Go.Proofs.YtbhkcgaanaelfaaGreat
namespace Go.Proofs.YtbhkcgaanaelfaaGreat
open Go.Ab Go.Pure
set_option linter.unusedSimpArgs false
set_option linter.unusedVariables false
set_option maxRecDepth 20000
noncomputable abbrev isE (l:List Int):List (List AV):=List.map zaj l
end Go.Proofs.YtbhkcgaanaelfaaGreat
namespace Go.Proofs.YtbhkcgaanaelfaaGreat
open Go.Ab
set_option linter.unusedSimpArgs false
set_option linter.unusedVariables false
def DOk (d:GmarkDice):Prop:=0≤d.At∧d.L.length≤600
noncomputable abbrev mD (d:GmarkDice):Mem:=[(1000,⟨2,zar,[zbu d],true⟩)]
theorem tmod_lt {a n:Int} (hn:0 < n):-n < a.tmod n∧a.tmod n < n:=by
 have h1:=Int.tmod_lt_of_pos a hn
 refine ⟨?_,h1⟩
 have h2:=Int.tmod_lt_of_pos (-a) hn
 rw [Int.neg_tmod] at h2
 omega
theorem c_Light (t:List Int):cw zne [.sl 1 (List.map zaj t)] []=some (znl (decide ((t.length:Int)≤600))):=
 zxI t (by rw [List.length_map]; rfl)
theorem c_Roll (t:List Int):cw zov [.sl 1 (List.map zaj t)] []=some (zow ⟨t,0⟩):=zyz t rfl
theorem c_Next (d:GmarkDice) (n:Int) (hd:DOk d) (hn:n≤4611686018427387904) :
  ∃ (r:Int) (d':GmarkDice),cw zgh [.loc 1000 2 0 0,I n] (mD d)=some (zkH (r,d'))∧0≤r∧(r < n∨r=0)∧DOk d':=by
 by_cases h1:(d.L.length:Int)≤d.At
 · refine ⟨0,d,zhV d n ?_,by omega,.inr rfl,hd⟩
   simp (disch:=omega) only [List.length_map,zru]; rfl
 by_cases h2:n < 1
 · refine ⟨0,d,zhV d n ?_,by omega,.inr rfl,hd⟩
   simp (disch:=omega) only [List.length_map,zru,brn_neg]; rfl
 obtain ⟨ha,hl⟩:=hd
 have hlt:d.At.toNat < d.L.length:=by omega
 have hb:=tmod_lt (a:=d.L[d.At.toNat]) (n:=n) (by omega)
 have hd':DOk ⟨d.L,d.At+1⟩:=⟨by show 0≤d.At+1; omega,hl⟩
 by_cases h3:(d.L[d.At.toNat]).tmod n < 0
 · refine ⟨(d.L[d.At.toNat]).tmod n+n,⟨d.L,d.At+1⟩,zhV d n ?_,by omega,.inl (by omega),hd'⟩
   simp (disch:=omega) [zru,brn_neg,zaf,hlt,w64_id]; rfl
 · refine ⟨(d.L[d.At.toNat]).tmod n,⟨d.L,d.At+1⟩,zhV d n ?_,by omega,.inl (by omega),hd'⟩
   simp (disch:=omega) [zru,brn_neg,zaf,hlt,w64_id]; rfl
theorem c_Pick (d:GmarkDice) (l:List Int) (hd:DOk d) (hl:l≠[]) (hl2:l.length≤1000) :
  ∃ (r:Int) (d':GmarkDice),cw zkO [.loc 1000 2 0 0,.sl 1 (List.map zaj l)] (mD d)=some (zkJ (r,d'))∧r∈l∧DOk d':=by
 obtain ⟨r,d',h,h0,h1,hd'⟩:=c_Next d l.length hd (by omega)
 have hpos:0 < l.length:=List.length_pos_iff.2 hl
 have hlt:r.toNat < l.length:=by omega
 refine ⟨l[r.toNat],d',zsT d l ?_,List.getElem_mem hlt,hd'⟩
 simp (disch:=omega) only [List.length_map,h,zk8,zaf,zx0,List.getElem?_eq_getElem hlt,Option.bind_some]
 rfl
end Go.Proofs.YtbhkcgaanaelfaaGreat
namespace Go.Proofs.YtbhkcgaanaelfaaGreat
open Go.Ab Go.Pure
set_option linter.unusedSimpArgs false
set_option linter.unusedVariables false
set_option maxRecDepth 20000
theorem fit_of {r:Rat} (h:(decide (r.num.natAbs≤1152921504606846976) && decide (r.den≤1152921504606846976))=true):Fit r:=by
 simp only [Bool.and_eq_true,decide_eq_true_eq] at h
 exact h
def s2:List Int:=[1,1]
def s4:List Int:=[1,1,1,1]
theorem s2_fd:FD s2:=by unfold s2 FD VD; decide
theorem s4_fd:FD s4:=by unfold s4 FD VD; decide
def q (n:Int) (d:Nat):Rat:=mkRat n d
def sP:List Pt:=[(q (-1) 2,q (-1) 2),(q 0 1,q 1 2),(q 1 2,q 3 2),(q 1 1,q 5 2),(q 3 2,q 7 2)]
def sN:List Pt:=[(q 0 1,q 1 2),(q 1 1,q 5 2)]
theorem sP_eq:pcP s2 s4=sP:=by kernel_rfl
theorem sP_nf:nf sP=sN:=by kernel_rfl
theorem sP_lf:lf (bn sP)=q 0 1:=by kernel_rfl
theorem sP_rt:rt (bn sP)=q 1 1:=by kernel_rfl
theorem sP_p0:Go.Pure.pc sP (q 0 1)=((q (-1) 2,q (-1) 2),(q 0 1,q 1 2)):=by kernel_rfl
theorem sP_p1:Go.Pure.pc sP (q 1 1)=((q 1 2,q 3 2),(q 1 1,q 5 2)):=by kernel_rfl
theorem sP_nfF:NfF sP:=by
 refine ⟨⟨⟨fit_of (by kernel_rfl),fit_of (by kernel_rfl),fit_of (by kernel_rfl)⟩,⟨fit_of (by kernel_rfl),fit_of (by kernel_rfl),fit_of (by kernel_rfl)⟩,⟨fit_of (by kernel_rfl),fit_of (by kernel_rfl),fit_of (by kernel_rfl)⟩,⟨fit_of (by kernel_rfl),fit_of (by kernel_rfl),fit_of (by kernel_rfl)⟩,trivial⟩,?_,?_,?_,?_⟩
 · rw [sP_lf]; exact fit_of (by kernel_rfl)
 · rw [sP_rt]; exact fit_of (by kernel_rfl)
 · rw [sP_lf]; unfold EvF; rw [sP_p0]
   exact ⟨⟨fit_of (by kernel_rfl),fit_of (by kernel_rfl),fit_of (by kernel_rfl)⟩,fit_of (by kernel_rfl),fit_of (by kernel_rfl),fit_of (by kernel_rfl)⟩
 · rw [sP_rt]; unfold EvF; rw [sP_p1]
   exact ⟨⟨fit_of (by kernel_rfl),fit_of (by kernel_rfl),fit_of (by kernel_rfl)⟩,fit_of (by kernel_rfl),fit_of (by kernel_rfl),fit_of (by kernel_rfl)⟩
theorem two_asc {p q:Pt} (h1:p.1 < q.1) (h2:p.2 < q.2):Asc [p,q]:=by
 unfold Asc
 simp only [List.pairwise_cons,List.mem_singleton,forall_eq,List.not_mem_nil,false_imp_iff,implies_true,List.Pairwise.nil,and_true]
 exact ⟨h1,h2⟩
theorem zu5 {p r:Pt} (n:Int) (v:Rat) (hn:n.natAbs≤100) (fp:Fit p.1∧Fit p.2) (fr:Fit r.1∧Fit r.2) (h1:p.1 < r.1) (h2:p.2 < r.2) (he:LnF p r (n:Rat)) (hv:ln p (sl p r) (n:Rat)=v) :
  cw zbA [.agg (zao (cF [p,r])),.agg (zaa ⟨n,1⟩)] []=some (zhk (ofR v,0)):=by
 have ha:=two_asc h1 h2
 have hf:AllF [p,r]:=fun z hz=>by
  simp only [List.mem_cons,List.not_mem_nil,or_false] at hz
  rcases hz with rfl | rfl
  · exact fp
  · exact fr
 have hpc:Go.Pure.pc [p,r] (n:Rat)=(p,r):=by unfold Go.Pure.pc; rw [if_pos (.inl rfl)]
 have hev:EvF [p,r] (n:Rat):=by unfold EvF; rw [hpc]; exact he
 have vr:VR ⟨n,1⟩:=⟨by show (1:Int)≤1; omega,by show (1:Int)≤_; omega,by show _≤n; omega,by show n≤_; omega,by simp⟩
 refine zmL _ _ ?_
 rw [zmh,zdW,zbH (vc_of hf ha (by simp) (by simp)),brn_nt,zdM,zaY,decide_eq_true vr,brn_nt]
 show callD zbp (cw zbq [.sl 4 (ptsE [p,r]),aR (n:Rat)] []) _=_
 rw [zm5 [p,r] (n:Rat) ha (by simp) (by simp) hf ⟨by show n.natAbs≤_; omega,by show 1≤_; omega⟩ hev,zbr,cv_two,hv]
 rfl
theorem s_mean:cw zfq [aD s2,aD s4] []=some (ziQ (cF [(q 0 1,q 1 1),(q 1 1,q 2 1)],0)):=by
 have B:=zrw s2 s4
 rw [if_neg (fun h=>by
  rcases h with h | h | h
  · exact h ⟨s2_fd.1,s4_fd.1⟩
  · exact absurd h (by decide)
  · exact absurd h (by decide))] at B
 have m2:mn s2=q 1 2:=by kernel_rfl
 have m4:mn s4=q 3 2:=by kernel_rfl
 rw [m2,m4] at B
 have f1:Fit (q 1 2):=fit_of (by kernel_rfl)
 have f2:Fit (q 3 2):=fit_of (by kernel_rfl)
 have f3:Fit (q 1 1):=fit_of (by kernel_rfl)
 have f4:Fit (q 2 1):=fit_of (by kernel_rfl)
 have M:=zme (q 1 1) (q 1 2) f3 f1
 have e1:q 1 1*q 1 2=q 1 2:=by kernel_rfl
 rw [e1,zcU f1] at M
 have S:=zoV (q 3 2) (q 1 2) f2 f1
 have e2:q 3 2 - q 1 2=q 1 1:=by kernel_rfl
 rw [e2,zcU f3] at S
 have A:=znj (q 1 1) (q 1 1) f3 f3
 have e3:q 1 1+q 1 1=q 2 1:=by kernel_rfl
 rw [e3,zcU f4] at A
 have vr:=fit_VR f3
 have L:cw zfJ [aR (q 1 1),aR (q 1 1)] []=some (zfF (cF [(q 0 1,q 1 1),(q 1 1,q 2 1)],0)):=by
  refine zdO _ _ ?_
  have n1:¬ (ofR (q 1 1)).Num≤0:=by decide +kernel
  rw [zdM,zaY,decide_eq_true vr,brn_nt,zaY,brn_nt,zag,if_neg n1,A,zdR,brn_f (by rfl),zjp,zbb,zjp,zbb]
  rfl
 have T:cw zb8 [aR (q 1 1),aR (q 1 2),aR (q 3 2)] []=some (zfi (cF [(q 0 1,q 1 1),(q 1 1,q 2 1)],0)):=by
  refine zfo _ _ _ ?_
  rw [M,zdj,brn_f (by rfl),S,zfx,brn_f (by rfl),L,zhy]
  rfl
 refine zn1 _ _ ?_
 rw [B,zaR,brn_f (by rfl)]
 show callD zcC (cw zb8 [aR (q 1 1),aR (q 1 2),aR (q 3 2)] []) _=_
 rw [T,zfg]
 rfl
theorem znr (n:Int):cw zeL [I n] []=some (zmB ⟨n,1⟩):=zwp n rfl
theorem zpf:cw zhp [] []=some (znx true):=by
 have P:=zqJ s2_fd s4_fd
 rw [sP_eq,nfR_ok sP_nfF,sP_nf] at P
 have lt1:q 0 1 < q 1 1:=by decide +kernel
 have E0:=zu5 (p:=(q 0 1,q 1 2)) (r:=(q 1 1,q 5 2)) 0 (q 1 2) (by omega) ⟨fit_of (by kernel_rfl),fit_of (by kernel_rfl)⟩ ⟨fit_of (by kernel_rfl),fit_of (by kernel_rfl)⟩ lt1 (by decide +kernel)
  ⟨⟨fit_of (by kernel_rfl),fit_of (by kernel_rfl),fit_of (by kernel_rfl)⟩,fit_of (by kernel_rfl),fit_of (by kernel_rfl),fit_of (by kernel_rfl)⟩ (by kernel_rfl)
 have E5:=zu5 (p:=(q 0 1,q 1 1)) (r:=(q 1 1,q 2 1)) 5 (q 6 1) (by omega) ⟨fit_of (by kernel_rfl),fit_of (by kernel_rfl)⟩ ⟨fit_of (by kernel_rfl),fit_of (by kernel_rfl)⟩ lt1 (by decide +kernel)
  ⟨⟨fit_of (by kernel_rfl),fit_of (by kernel_rfl),fit_of (by kernel_rfl)⟩,fit_of (by kernel_rfl),fit_of (by kernel_rfl),fit_of (by kernel_rfl)⟩ (by kernel_rfl)
 have o12:ofR (q 1 2)=⟨1,2⟩:=by kernel_rfl
 have o61:ofR (q 6 1)=⟨6,1⟩:=by kernel_rfl
 refine zxY ?_
 show callD zdo (cw zef [aD s2,aD s4] []) _=_
 rw [P,ziY,znr,zeH]
 show callD zbB (cw zbA [.agg (zao (cF sN)),.agg (zaa ⟨0,1⟩)] []) _=_
 rw [show sN=[(q 0 1,q 1 2),(q 1 1,q 5 2)] from rfl,E0,zd8]
 show callD zfy (cw zfq [aD s2,aD s4] []) _=_
 rw [s_mean,ziD,znr,zeH,E5,zd8,o12,o61,brn_t (by rfl),brn_t (by rfl),brn_t (by rfl),brn_t (by rfl),brn_t (by rfl),znr,zeH]
 rfl
section
variable (t:List Int) (raw:GDistribution) (cu:GCurve) (kind fr to:Int)
variable (r5 r6 r7:GDistribution×GmarkDice)
end
end Go.Proofs.YtbhkcgaanaelfaaGreat
