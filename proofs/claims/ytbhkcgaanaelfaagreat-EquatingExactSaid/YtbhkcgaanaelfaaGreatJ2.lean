/- Distributions of any size: what both programs compute of them. -/
import Derived.Test.YtbhkcgaanaelfaaGreatJ1
import Derived.Test.YtbhkcgaanaelfaaGreatJ0
import Derived.Test.YtbhkcgaanaelfaaGreatAbTop
import Derived.OpenShut
import Derived.DataElems
import Derived.ChangeArms
namespace Go.Proofs.YtbhkcgaanaelfaaGreat
open Go.Ab Go.Pure
set_option linter.unusedSimpArgs false
set_option linter.unusedVariables false
set_option maxRecDepth 20000
def VD (l:List Int):Prop:=1≤l.length∧l.length≤201∧(∀ c∈l,0≤c)∧l.sum≤1048576
noncomputable abbrev aD (l:List Int):AV:=.agg (zab ⟨l⟩)
theorem sum_nn:∀ (l:List Int),(∀ c∈l,0≤c)→0≤l.sum
 | [],_=>by simp
 | c :: l,h=>by
   have:=sum_nn l (fun x hx=>h x (by simp [hx]))
   have:=h c (by simp)
   simp only [List.sum_cons]
   omega
theorem zs1 {l:List Int} {i:Nat} (hi:i < l.length):(l.drop i).sum=l[i]+(l.drop (i+1)).sum:=by
 rw [List.drop_eq_getElem_cons hi,List.sum_cons]
theorem zj2 (l:List Int) (i:Nat):(l.take i).sum+(l.drop i).sum=l.sum:=by
 rw [← List.sum_append,List.take_append_drop]
theorem zjc {x:List Int} {i:Nat} (hi:i < x.length):(x.take (i+1)).sum=(x.take i).sum+x[i]:=by
 rw [List.take_add_one,List.getElem?_eq_getElem hi,List.sum_append]; simp
theorem VD.sum {l:List Int} (h:VD l):0≤l.sum∧l.sum≤1048576:=⟨sum_nn l h.2.2.1,h.2.2.2⟩
theorem zvo {l:List Int} (h:∀ c∈l,0≤c) (i:Nat):0≤(l.drop i).sum:=sum_nn _ (fun c hc=>h c (List.mem_of_mem_drop hc))
theorem nn_take {l:List Int} (h:∀ c∈l,0≤c) (i:Nat):0≤(l.take i).sum:=sum_nn _ (fun c hc=>h c (List.mem_of_mem_take hc))
theorem VD.drop {l:List Int} (h:VD l) (i:Nat):0≤(l.drop i).sum∧(l.drop i).sum≤1048576:=by
 have h1:=zvo h.2.2.1 i
 have h2:=nn_take h.2.2.1 i
 have h3:=zj2 l i
 have h4:=h.2.2.2
 omega
theorem VD.take {l:List Int} (h:VD l) (i:Nat):0≤(l.take i).sum∧(l.take i).sum≤1048576:=by
 have h1:=zvo h.2.2.1 i
 have h2:=nn_take h.2.2.1 i
 have h3:=zj2 l i
 have h4:=h.2.2.2
 omega
theorem VD.at {l:List Int} (h:VD l) {i:Nat} (hi:i < l.length):0≤l[i]∧l[i]≤1048576:=by
 have h1:=h.drop i
 have h2:=h.drop (i+1)
 have h3:=zs1 hi
 have h4:=h.2.2.1 _ (List.getElem_mem hi)
 omega
theorem lenI (l:List Int):(List.map zai l).length=l.length:=List.length_map _
theorem elemI {β:Type} {l:List Int} {i:Nat} (h:i < l.length) (k:Int→Option β):elemD zaw (List.map zai l) i k=k l[i]:=elemD_get (D:=zaw) (l:=l) h k
theorem sum_ub:∀ (l:List Int),(∀ c∈l,0≤c∧c≤1048576)→l.sum≤1048576*l.length
 | [],_=>by simp
 | c :: l,h=>by
   have:=sum_ub l (fun x hx=>h x (by simp [hx]))
   have:=h c (by simp)
   simp only [List.sum_cons,List.length_cons]
   omega
theorem k_DV (l:List Int) (hl:l.length≤201):∀ (k i:Nat) (s:Int),i+k=l.length→s=(l.take i).sum→(∀ j (h:j < l.length),j < i→0≤l[j]∧l[j]≤1048576)→zfY ⟨l⟩ s (i:Int)=some (zgE (dec ((∀ c∈l,0≤c)∧l.sum≤1048576))):=by
 have big:∀ {j:Nat} (hj:j < l.length),¬ l[j]≤1048576→¬ ((∀ c∈l,0≤c)∧l.sum≤1048576):=fun {j} hj h h2=>by
  have h1:=zvo h2.1 (j+1)
  have h3:=nn_take h2.1 j
  have h4:=zj2 l j
  have h5:=zs1 hj
  have:=h2.2
  omega
 intro k
 induction k with
 | zero =>
   intro i s hi hs hp
   have ht:l.take i=l:=List.take_of_length_le (by omega)
   rw [ht] at hs
   refine zmG _ _ _ ?_
   dsimp only
   have hall:∀ c∈l,0≤c:=fun c hc=>by
    obtain ⟨j,hj,rfl⟩:=List.mem_iff_getElem.1 hc
    exact (hp j hj (by omega)).1
   rw [zad,if_neg (by rw [lenI]; omega)]
   by_cases h:s≤1048576
   · rw [zav ⟨hall,hs▸h⟩,decide_eq_true h]; rfl
   · rw [zaF (fun h2=>h (hs▸h2.2)),decide_eq_false h]; rfl
 | succ k ih =>
   intro i s hi hs hp
   have hil:i < l.length:=by omega
   have e:w64 ((i:Int)+1)=((i+1:Nat):Int):=by rw [w64_id (by omega) (by omega)]; omega
   have b1:0≤s∧s≤1048576*201:=by
    have hm:∀ c∈l.take i,0≤c∧c≤1048576:=fun c hc=>by
     obtain ⟨j,hj,rfl⟩:=List.mem_iff_getElem.1 hc
     rw [List.length_take] at hj
     rw [List.getElem_take]
     exact hp j (by omega) (by omega)
    have h1:=sum_ub _ hm
    have h2:=sum_nn _ (fun c hc=>(hm c hc).1)
    rw [List.length_take] at h1
    rw [hs]; omega
   refine zmG _ _ _ ?_
   dsimp only
   rw [zad,if_pos (by rw [lenI]; omega),zac (by omega),Int.toNat_natCast,elemI hil,zad]
   by_cases h1:l[i] < 0
   · rw [if_pos h1,zaF (fun h=>by have:=h.1 _ (List.getElem_mem hil); omega)]; rfl
   · rw [if_neg h1,zad]
     by_cases h2:1048576 < l[i]
     · rw [if_pos h2,zaF (big hil (by omega))]; rfl
     · rw [if_neg h2,e,w64_id (by omega) (by omega)]
       refine ih (i+1) _ (by omega) (by rw [zjc hil,hs]) (fun j hj hji=>?_)
       rcases Nat.lt_or_eq_of_le (Nat.le_of_lt_succ hji) with h | h
       · exact hp j hj h
       · subst h; omega
theorem VD_iff (l:List Int) (h1:1≤l.length) (h2:l.length≤201):VD l↔((∀ c∈l,0≤c)∧l.sum≤1048576):=⟨fun h=>⟨h.2.2.1,h.2.2.2⟩,fun h=>⟨h1,h2,h.1,h.2⟩⟩
theorem zdD (l:List Int):cw zbC [aD l] []=some (zgE (dec (VD l))):=by
 refine zty _ ?_
 rw [lenI,zad]
 by_cases h1:(l.length:Int) < 1
 · rw [if_pos h1,zaF (fun h=>by have:=h.1; omega)]; rfl
 · rw [if_neg h1,zad]
   by_cases h2:201 < (l.length:Int)
   · rw [if_pos h2,zaF (fun h=>by have:=h.2.1; omega)]; rfl
   · rw [if_neg h2,zvr (VD_iff l (by omega) (by omega))]
     exact k_DV l (by omega) l.length 0 0 (by omega) (by simp) (fun j _ h=>by omega)
theorem k_rDV (l:List Int) (hl:l.length≤201):∀ (k i:Nat) (s:Int),i+k=l.length→s=(l.take i).sum→(∀ j (h:j < l.length),j < i→0≤l[j])→s≤1048576→zkP ⟨l⟩ s (i:Int)=some (zmW (dec ((∀ c∈l,0≤c)∧l.sum≤1048576))):=by
 intro k
 induction k with
 | zero =>
   intro i s hi hs hp hb
   have ht:l.take i=l:=List.take_of_length_le (by omega)
   rw [ht] at hs
   refine zrL _ _ _ ?_
   dsimp only
   have hall:∀ c∈l,0≤c:=fun c hc=>by
    obtain ⟨j,hj,rfl⟩:=List.mem_iff_getElem.1 hc
    exact hp j hj (by omega)
   rw [zad,if_neg (by rw [lenI]; omega),zav ⟨hall,hs▸hb⟩]; rfl
 | succ k ih =>
   intro i s hi hs hp hb
   have hil:i < l.length:=by omega
   have e:w64 ((i:Int)+1)=((i+1:Nat):Int):=by rw [w64_id (by omega) (by omega)]; omega
   have b1:0≤s:=by
    have h2:=sum_nn (l.take i) (fun c hc=>by
     obtain ⟨j,hj,rfl⟩:=List.mem_iff_getElem.1 hc
     rw [List.length_take] at hj
     rw [List.getElem_take]
     exact hp j (by omega) (by omega))
    omega
   refine zrL _ _ _ ?_
   dsimp only
   rw [zad,if_pos (by rw [lenI]; omega),zac (by omega),Int.toNat_natCast,elemI hil,zad]
   by_cases h1:l[i] < 0
   · rw [if_pos h1,zaF (fun h=>by have:=h.1 _ (List.getElem_mem hil); omega)]; rfl
   · rw [if_neg h1,zac (by omega),elemI hil,zad,w64_id (n:=1048576 - s) (by omega) (by omega)]
     by_cases h2:1048576 - s < l[i]
     · rw [if_pos h2,zaF (fun h=>by
        have a1:=zvo h.1 (i+1)
        have a2:=zj2 l i
        have a3:=zs1 hil
        have:=h.2
        omega)]; rfl
     · rw [if_neg h2,zac (by omega),elemI hil,e,w64_id (by omega) (by omega)]
       refine ih (i+1) _ (by omega) (by rw [zjc hil,hs]) (fun j hj hji=>?_) (by omega)
       rcases Nat.lt_or_eq_of_le (Nat.le_of_lt_succ hji) with h | h
       · exact hp j hj h
       · subst h; omega
theorem za8 (l:List Int):cw zdh [aD l] []=some (zmW (dec (VD l))):=by
 refine zzy _ ?_
 rw [lenI,zad]
 by_cases h1:(l.length:Int) < 1
 · rw [if_pos h1,zaF (fun h=>by have:=h.1; omega)]; rfl
 · rw [if_neg h1,zad]
   by_cases h2:201 < (l.length:Int)
   · rw [if_pos h2,zaF (fun h=>by have:=h.2.1; omega)]; rfl
   · rw [if_neg h2,zvr (VD_iff l (by omega) (by omega))]
     exact k_rDV l (by omega) l.length 0 0 (by omega) (by simp) (fun j _ h=>by omega) (by omega)
theorem c_Below {l:List Int} (h:VD l) (k:Int):cw zjg [aD l,I k] []=some (zgU (l.take k.toNat).sum):=by
 have hl2:=h.2.1
 have key:∀ (m i:Nat),i+m=l.length→i≤k.toNat→zf2 ⟨l⟩ k (l.take i).sum (i:Int)=some (zgU (l.take k.toNat).sum):=by
  intro m
  induction m with
  | zero =>
    intro i hi hk
    refine zmA _ _ _ _ ?_
    dsimp only
    rw [zad,if_neg (by rw [lenI]; omega),List.take_of_length_le (show l.length≤i by omega),List.take_of_length_le (by omega)]
    rfl
  | succ m ih =>
    intro i hi hk
    have e:w64 ((i:Int)+1)=((i+1:Nat):Int):=by rw [w64_id (by omega) (by omega)]; omega
    have ht:=h.take i
    have ha:=h.at (show i < l.length by omega)
    refine zmA _ _ _ _ ?_
    dsimp only
    rw [zad,if_pos (by rw [lenI]; omega),zad]
    by_cases hc:(i:Int) < k
    · rw [if_pos hc,zac (by omega),Int.toNat_natCast,elemI (by omega),e,w64_id (by omega) (by omega),← zjc]
      exact ih (i+1) (by omega) (by omega)
    · rw [if_neg hc,show k.toNat=i by omega]; rfl
 refine ztx _ _ ?_
 rw [zdD,zaK,zav h,brn_nt]
 exact key l.length 0 (by omega) (by omega)
theorem zk3 {l:List Int} (h:VD l) (k:Int):cw zeI [aD l,I k] []=some (zmN (l.take k.toNat).sum):=by
 have hl2:=h.2.1
 have key:∀ (m i:Nat),i+m=l.length→i≤k.toNat→zkI ⟨l⟩ k (l.take i).sum (i:Int)=some (zmN (l.take k.toNat).sum):=by
  intro m
  induction m with
  | zero =>
    intro i hi hk
    refine zrG _ _ _ _ ?_
    dsimp only
    rw [zad,if_neg (by rw [lenI]; omega),List.take_of_length_le (show l.length≤i by omega),List.take_of_length_le (by omega)]
    rfl
  | succ m ih =>
    intro i hi hk
    have e:w64 ((i:Int)+1)=((i+1:Nat):Int):=by rw [w64_id (by omega) (by omega)]; omega
    have ht:=h.take i
    have ha:=h.at (show i < l.length by omega)
    refine zrG _ _ _ _ ?_
    dsimp only
    rw [zad,if_pos (by rw [lenI]; omega),zad]
    by_cases hc:(i:Int) < k
    · rw [if_pos hc,za8,zaB,zav h,zaG,zac (by omega),Int.toNat_natCast,elemI (by omega),e,w64_id (by omega) (by omega),← zjc]
      exact ih (i+1) (by omega) (by omega)
    · rw [if_neg hc,show k.toNat=i by omega]; rfl
 exact zz5 _ _ (key l.length 0 (by omega) (by omega))
theorem zqX {l:List Int} (h:VD l):cw zde [aD l] []=some (zjp l.sum):=by
 refine zto _ ?_
 have:=c_Below h (l.length:Int)
 rw [Int.toNat_natCast,List.take_length] at this
 rw [lenI,this,zqP]
 rfl
theorem zk9 {l:List Int} (h:VD l):cw zeG [aD l] []=some (zpB l.sum):=by
 refine zAc _ ?_
 have:=zk3 h (l.length:Int)
 rw [Int.toNat_natCast,List.take_length] at this
 rw [lenI,this,zdv]
 rfl
theorem c_check (l:List Int):cw zgO [aD l] []=some (zjE (@ite (Int×Int) (VD l) (Classical.propDecidable _) (if l.sum=0 then (0,10) else (l.sum,0)) (0,1))):=by
 refine ztv _ ?_
 rw [zdD,zaK]
 by_cases h:VD l
 · rw [zav h,brn_nt,zqX h,zd2,if_pos h]
   by_cases h0:l.sum=0
   · rw [h0,if_pos rfl]; rfl
   · rw [beq_false_of_ne h0,if_neg h0]; rfl
 · rw [zaF h,if_neg h]; rfl
theorem zw3 (l:List Int):cw zmS [aD l] []=some (zpV (@ite Int (VD l) (Classical.propDecidable _) (if l.sum=0 then 10 else 0) 1)):=by
 refine zzM _ ?_
 rw [za8,zaB]
 by_cases h:VD l
 · rw [zav h,brn_nt,zk9 h,zdy,if_pos h]
   by_cases h0:l.sum=0
   · rw [h0,if_pos rfl]; rfl
   · rw [beq_false_of_ne h0,if_neg h0]; rfl
 · rw [zaF h,if_neg h]; rfl
def sc (i:Nat):List Int→Int
 | []=>0
 | c :: r=>(i:Int)*c+sc (i+1) r
theorem sc_bd:∀ (l:List Int) (i:Nat),(∀ c∈l,0≤c)→i+l.length≤201→0≤sc i l∧sc i l≤201*l.sum
 | [],i,_,_=>by simp [sc]
 | c :: l,i,h,hi=>by
   simp only [List.length_cons] at hi
   have h1:=sc_bd l (i+1) (fun x hx=>h x (by simp [hx])) (by omega)
   have h2:=h c (by simp)
   have h3:(i:Int)*c≤201*c:=Int.mul_le_mul_of_nonneg_right (by omega) h2
   have h4:0≤(i:Int)*c:=Int.mul_nonneg (by omega) h2
   simp only [sc,List.sum_cons]
   omega
theorem sc_drop {l:List Int} {i:Nat} (hi:i < l.length):sc i (l.drop i)=(i:Int)*l[i]+sc (i+1) (l.drop (i+1)):=by
 rw [List.drop_eq_getElem_cons hi]; rfl
theorem VD.sc {l:List Int} (h:VD l) (i:Nat) (hi:i≤l.length):0≤sc i (l.drop i)∧sc i (l.drop i)≤210763776:=by
 have h1:=sc_bd (l.drop i) i (fun c hc=>h.2.2.1 c (List.mem_of_mem_drop hc)) (by rw [List.length_drop]; have:=h.2.1; omega)
 have:=h.drop i
 omega
theorem k_scores {l:List Int} (h:VD l):∀ (k i:Nat) (s:Int),i+k=l.length→0≤s→s+sc i (l.drop i)=sc 0 l→zed ⟨l⟩ s (i:Int)=some (zeK (sc 0 l))∧zmO ⟨l⟩ s (i:Int)=some (zpc (sc 0 l)):=by
 have hl2:=h.2.1
 have hall:=h.sc 0 (by omega)
 rw [List.drop_zero] at hall
 intro k
 induction k with
 | zero =>
   intro i s hi h0 he
   rw [List.drop_eq_nil_of_le (by omega)] at he
   simp only [sc,Int.add_zero] at he
   constructor
   · refine ziV _ _ _ ?_
     dsimp only
     rw [zad,if_neg (by rw [lenI]; omega),he]; rfl
   · refine ztV _ _ _ ?_
     dsimp only
     rw [zad,if_neg (by rw [lenI]; omega),he]; rfl
 | succ k ih =>
   intro i s hi h0 he
   have e:w64 ((i:Int)+1)=((i+1:Nat):Int):=by rw [w64_id (by omega) (by omega)]; omega
   have ha:=h.at (show i < l.length by omega)
   have hd:=h.sc (i+1) (by omega)
   have hsd:=sc_drop (show i < l.length by omega)
   have m1:(i:Int)*l[i]≤201*l[i]:=Int.mul_le_mul_of_nonneg_right (by omega) ha.1
   have m2:0≤(i:Int)*l[i]:=Int.mul_nonneg (by omega) ha.1
   have IH:=ih (i+1) (s+(i:Int)*l[i]) (by omega) (by omega) (by omega)
   constructor
   · refine ziV _ _ _ ?_
     dsimp only
     rw [zad,if_pos (by rw [lenI]; omega),zac (by omega),Int.toNat_natCast,elemI (by omega),e,w64_id (n:=(i:Int)*l[i]) (by omega) (by omega),w64_id (by omega) (by omega)]
     exact IH.1
   · refine ztV _ _ _ ?_
     dsimp only
     rw [zad,if_pos (by rw [lenI]; omega),zac (by omega),Int.toNat_natCast,elemI (by omega),e,w64_id (n:=(i:Int)*l[i]) (by omega) (by omega),w64_id (by omega) (by omega)]
     exact IH.2
theorem c_scores {l:List Int} (h:VD l):cw zeL [aD l] []=some (zeK (sc 0 l)):=
 zpv _ (k_scores h l.length 0 0 (by omega) (by omega) (by simp)).1
theorem zyU {l:List Int} (h:VD l):cw zo9 [aD l] []=some (zpc (sc 0 l)):=
 zB8 _ (k_scores h l.length 0 0 (by omega) (by omega) (by simp)).2
def dv (n S:Int) (i:Nat):List Int→Int
 | []=>0
 | c :: r=>c*((((i:Int)*n - S).natAbs:Nat):Int)+dv n S (i+1) r
theorem dv_bd (n S:Int) (hn:0≤n∧n≤1048576) (hS:0≤S∧S≤210763776):∀ (l:List Int) (i:Nat),(∀ c∈l,0≤c)→i+l.length≤201→0≤dv n S i l∧dv n S i l≤210763776*l.sum
 | [],i,_,_=>by simp [dv]
 | c :: l,i,h,hi=>by
   simp only [List.length_cons] at hi
   have h1:=dv_bd n S hn hS l (i+1) (fun x hx=>h x (by simp [hx])) (by omega)
   have h2:=h c (by simp)
   have m1:(i:Int)*n≤201*n:=Int.mul_le_mul_of_nonneg_right (by omega) hn.1
   have m2:0≤(i:Int)*n:=Int.mul_nonneg (by omega) hn.1
   have h3:((((i:Int)*n - S).natAbs:Nat):Int)≤210763776:=by omega
   have h4:c*((((i:Int)*n - S).natAbs:Nat):Int)≤c*210763776:=Int.mul_le_mul_of_nonneg_left h3 h2
   have h5:0≤c*((((i:Int)*n - S).natAbs:Nat):Int):=Int.mul_nonneg h2 (by omega)
   simp only [dv,List.sum_cons]
   omega
theorem dv_drop {n S:Int} {l:List Int} {i:Nat} (hi:i < l.length):dv n S i (l.drop i)=l[i]*((((i:Int)*n - S).natAbs:Nat):Int)+dv n S (i+1) (l.drop (i+1)):=by
 rw [List.drop_eq_getElem_cons hi]; rfl
theorem absI (x:Int) (h1:-1000000000≤x) (h2:x≤1000000000):(if w64 (0 - x) > x then w64 (0 - x) else x)=((x.natAbs:Nat):Int):=by
 rw [w64_id (by omega) (by omega)]
 split <;> omega
def mn (l:List Int):Rat:=mkRat (sc 0 l) l.sum.toNat
def dvn (l:List Int):Rat:=mkRat (dv l.sum (sc 0 l) 0 l) (l.sum*l.sum).toNat
theorem znp {N:Int} {D:Nat} (h0:0 < D) (hN:N.natAbs≤1152921504606846976) (hD:D≤1152921504606846976):newR N (D:Int)=(ofR (mkRat N D),0)∧Fit (mkRat N D):=by
 have hf:Fit (mkRat N D):=by
  have hne:D≠0:=by omega
  refine ⟨?_,?_⟩
  · rw [Rat.num_mkRat,if_neg hne]
    exact Nat.le_trans (zoS _ _) hN
  · rw [Rat.den_mkRat,if_neg hne]
    exact Nat.le_trans (Nat.div_le_self _ _) hD
 have hs:(!decide (N < 0) == decide ((D:Int) < 0))=decide (N < 0):=by
  rw [decide_eq_false (show ¬ (D:Int) < 0 by omega)]
  cases decide (N < 0) <;> rfl
 refine ⟨?_,hf⟩
 unfold newR
 rw [if_neg (by omega),hs,Int.natAbs_natCast,zvt _ _ _ h0,← sgn_of,zbI hf]
theorem zjh {l:List Int} (h:VD l) (h0:l.sum≠0):cw zcU [aD l] []=some (zkq (ofR (mn l),0))∧cw zez [aD l] []=some (zhm (ofR (mn l),0))∧Fit (mn l):=by
 have hs:=h.sum
 have hc:=h.sc 0 (by omega)
 rw [List.drop_zero] at hc
 have e:l.sum=((l.sum.toNat:Nat):Int):=by omega
 obtain ⟨n1,n2⟩:=znp (N:=sc 0 l) (D:=l.sum.toNat) (by omega) (by omega) (by omega)
 have p:=c_NewG (sc 0 l) l.sum (by omega) (by omega) (by omega) (by omega)
 have r:=zqs (sc 0 l) l.sum (by omega) (by omega) (by omega) (by omega)
 have e2:newR (sc 0 l) l.sum=(ofR (mn l),0):=by rw [e,n1]; rfl
 rw [e2] at p r
 refine ⟨zut _ ?_,zvi _ ?_,n2⟩
 · rw [c_check,zk7,if_pos h,if_neg h0,brn_f (by rfl),c_scores h,zhU,p,zkE]; rfl
 · rw [zw3,zmb,if_pos h,if_neg h0,brn_f (by rfl),zyU h,zrB,zk9 h,zdy,r,zgk]; rfl
theorem zrC {l:List Int} (h:VD l) (h0:l.sum≠0):cw zcn [aD l] []=some (ze8 (ofR (dvn l),0))∧cw ziv [aD l] []=some (ziE (ofR (dvn l),0))∧Fit (dvn l):=by
 have hs:=h.sum
 have hl2:=h.2.1
 have hc:=h.sc 0 (by omega)
 rw [List.drop_zero] at hc
 have hsq:0 < l.sum*l.sum:=Int.mul_pos (by omega) (by omega)
 have hsq2:l.sum*l.sum≤1048576*1048576:=Int.mul_le_mul hs.2 hs.2 hs.1 (by omega)
 have hD:∀ i,i≤l.length→0≤dv l.sum (sc 0 l) i (l.drop i)∧dv l.sum (sc 0 l) i (l.drop i)≤221001837182976:=fun i hi=>by
  have h1:=dv_bd l.sum (sc 0 l) hs hc (l.drop i) i (fun c hc=>h.2.2.1 c (List.mem_of_mem_drop hc)) (by rw [List.length_drop]; omega)
  have:=h.drop i
  omega
 have hD0:=hD 0 (by omega)
 rw [List.drop_zero] at hD0
 have e:l.sum*l.sum=(((l.sum*l.sum).toNat:Nat):Int):=by omega
 obtain ⟨n1,n2⟩:=znp (N:=dv l.sum (sc 0 l) 0 l) (D:=(l.sum*l.sum).toNat) (by omega) (by omega) (by omega)
 have p:=c_NewG (dv l.sum (sc 0 l) 0 l) (l.sum*l.sum) (by omega) (by omega) (by omega) (by omega)
 have r:=zqs (dv l.sum (sc 0 l) 0 l) (l.sum*l.sum) (by omega) (by omega) (by omega) (by omega)
 have e2:newR (dv l.sum (sc 0 l) 0 l) (l.sum*l.sum)=(ofR (dvn l),0):=by rw [e,n1]; rfl
 rw [e2] at p r
 have key:∀ (k i:Nat) (s:Int),i+k=l.length→0≤s→s+dv l.sum (sc 0 l) i (l.drop i)=dv l.sum (sc 0 l) 0 l→zeJ ⟨l⟩ (l.sum,0) (sc 0 l) s (i:Int)=some (ze8 (ofR (dvn l),0))∧zht ⟨l⟩ l.sum (sc 0 l) s (i:Int)=some (ziE (ofR (dvn l),0)):=by
  intro k
  induction k with
  | zero =>
    intro i s hi hs0 he
    rw [List.drop_eq_nil_of_le (by omega)] at he
    simp only [dv,Int.add_zero] at he
    constructor
    · refine zjN _ _ _ _ _ ?_
      dsimp only
      rw [zad,if_neg (by rw [lenI]; omega),he,w64_id (n:=l.sum*l.sum) (by omega) (by omega),p,zkE]; rfl
    · refine zoC _ _ _ _ _ ?_
      dsimp only
      rw [zad,if_neg (by rw [lenI]; omega),he,w64_id (n:=l.sum*l.sum) (by omega) (by omega),r,zgk]; rfl
  | succ k ih =>
    intro i s hi hs0 he
    have e1:w64 ((i:Int)+1)=((i+1:Nat):Int):=by rw [w64_id (by omega) (by omega)]; omega
    have ha:=h.at (show i < l.length by omega)
    have hd:=hD (i+1) (by omega)
    have hsd:=dv_drop (n:=l.sum) (S:=sc 0 l) (show i < l.length by omega)
    have m1:(i:Int)*l.sum≤201*l.sum:=Int.mul_le_mul_of_nonneg_right (by omega) hs.1
    have m2:0≤(i:Int)*l.sum:=Int.mul_nonneg (by omega) hs.1
    have h3:((((i:Int)*l.sum - sc 0 l).natAbs:Nat):Int)≤210763776:=by omega
    have h4:l[i]*((((i:Int)*l.sum - sc 0 l).natAbs:Nat):Int)≤l[i]*210763776:=Int.mul_le_mul_of_nonneg_left h3 ha.1
    have h5:0≤l[i]*((((i:Int)*l.sum - sc 0 l).natAbs:Nat):Int):=Int.mul_nonneg ha.1 (by omega)
    have IH:=ih (i+1) (s+l[i]*((((i:Int)*l.sum - sc 0 l).natAbs:Nat):Int)) (by omega) (by omega) (by omega)
    constructor
    · refine zjN _ _ _ _ _ ?_
      dsimp only
      rw [zad,if_pos (by rw [lenI]; omega),zac (by omega),Int.toNat_natCast,elemI (by omega),e1]
      rw [w64_id (n:=(i:Int)*l.sum) (by omega) (by omega),w64_id (n:=(i:Int)*l.sum - sc 0 l) (by omega) (by omega),absI _ (by omega) (by omega),w64_id (n:=l[i]*_) (by omega) (by omega),w64_id (by omega) (by omega)]
      exact IH.1
    · refine zoC _ _ _ _ _ ?_
      dsimp only
      rw [zad,if_pos (by rw [lenI]; omega),zac (by omega),Int.toNat_natCast,elemI (by omega),e1]
      rw [w64_id (n:=(i:Int)*l.sum) (by omega) (by omega),w64_id (n:=(i:Int)*l.sum - sc 0 l) (by omega) (by omega),absI _ (by omega) (by omega),w64_id (n:=l[i]*_) (by omega) (by omega),w64_id (by omega) (by omega)]
      exact IH.2
 have K:=key l.length 0 0 (by omega) (by omega) (by simp)
 refine ⟨zqF _ ?_,zvV _ ?_,n2⟩
 · rw [c_check,zk7,if_pos h,if_neg h0,brn_f (by rfl),c_scores h,zhU]; exact K.1
 · rw [zw3,zmb,if_pos h,if_neg h0,brn_f (by rfl),zk9 h,zdy,zyU h,zrB]; exact K.2
end Go.Proofs.YtbhkcgaanaelfaaGreat
namespace Go.Pure
set_option linter.unusedVariables false
def Qs (a:Nat→Rat) (i:Nat) (s:Rat):Rat:=(i:Rat) - 1 / 2+(s - a i) / (a (i+1) - a i)
def pw (a b:Nat→Rat) (n m:Nat):Nat→Nat→Nat→List Pt
 | 0,_,_=>[]
 | k+1,i,j=>if i < n∧j < m then
     (Qs a i (if b (j+1) < a (i+1) then b (j+1) else a (i+1)),Qs b j (if b (j+1) < a (i+1) then b (j+1) else a (i+1))) ::
      pw a b n m k (if a (i+1)≤b (j+1) then i+1 else i) (if b (j+1)≤a (i+1) then j+1 else j)
   else []
structure Sh (a:Nat→Rat) (n:Nat):Prop where
 zero:a 0=0
 one:a n=1
 up:∀ i,i < n→a i < a (i+1)
 pos:0 < n
theorem Sh.le {a:Nat→Rat} {n:Nat} (h:Sh a n):∀ (k i:Nat),i+k=n→a i≤1
 | 0,i,hi=>by rw [show i=n by omega,h.one]; exact Rat.le_refl
 | k+1,i,hi=>by have:=h.le k (i+1) (by omega); have:=h.up i (by omega); grind
theorem Sh.le1 {a:Nat→Rat} {n:Nat} (h:Sh a n) {i:Nat} (hi:i≤n):a i≤1:=h.le (n - i) i (by omega)
theorem Qs_up {a:Nat→Rat} {i:Nat} (h:a i < a (i+1)) {s t:Rat} (hst:s < t):Qs a i s < Qs a i t:=by
 unfold Qs
 have h1:0 < (a (i+1) - a i)⁻¹:=Rat.inv_pos.2 (by grind)
 have h2:0 < (t - s)*(a (i+1) - a i)⁻¹:=Rat.mul_pos (by grind) h1
 rw [Rat.div_def,Rat.div_def]
 grind
theorem Qs_0 (a:Nat→Rat) (i:Nat):Qs a i (a i)=(i:Rat) - 1 / 2:=by unfold Qs; rw [Rat.div_def]; grind
theorem Qs_1 {a:Nat→Rat} {i:Nat} (h:a i < a (i+1)):Qs a i (a (i+1))=((i+1:Nat):Rat) - 1 / 2:=by
 unfold Qs
 have h1:a (i+1) - a i≠0:=by grind
 have h2:((i+1:Nat):Rat)=(i:Rat)+1:=by rw [Rat.natCast_add]; rfl
 rw [h2]
 have h3:(a (i+1) - a i) / (a (i+1) - a i)=1:=by grind
 rw [h3]; grind
theorem zsQ {a:Nat→Rat} {i:Nat} (h:a i < a (i+1)):Qs a i (a (i+1))=Qs a (i+1) (a (i+1)):=by rw [Qs_1 h,Qs_0]
structure At (a b:Nat→Rat) (n m i j:Nat) (s:Rat):Prop where
 ai:a i≤s
 bj:b j≤s
 an:i < n→s < a (i+1)
 bm:j < m→s < b (j+1)
 im:i≤n
 jm:j≤m
section
variable {a b:Nat→Rat} {n m:Nat} (ha:Sh a n) (hb:Sh b m)
theorem At.both {i j:Nat} {s:Rat} (h:At a b n m i j s) (ha:Sh a n) (hb:Sh b m):i < n↔j < m:=by
 constructor
 · intro hi
   apply Decidable.byContradiction
   intro hj
   have h1:=h.bj
   rw [show j=m by have:=h.jm; omega,hb.one] at h1
   have h2:=h.an hi
   have h3:=ha.le1 (show i+1≤n by omega)
   grind
 · intro hj
   apply Decidable.byContradiction
   intro hi
   have h1:=h.ai
   rw [show i=n by have:=h.im; omega,ha.one] at h1
   have h2:=h.bm hj
   have h3:=hb.le1 (show j+1≤m by omega)
   grind
def nx (a b:Nat→Rat) (i j:Nat):Rat:=if b (j+1) < a (i+1) then b (j+1) else a (i+1)
def ni (a b:Nat→Rat) (i j:Nat):Nat:=if a (i+1)≤b (j+1) then i+1 else i
def nj (a b:Nat→Rat) (i j:Nat):Nat:=if b (j+1)≤a (i+1) then j+1 else j
theorem zsB (k:Nat) {i j:Nat} (hi:i < n) (hj:j < m):pw a b n m (k+1) i j=(Qs a i (nx a b i j),Qs b j (nx a b i j)) :: pw a b n m k (ni a b i j) (nj a b i j):=by
 conv=>lhs; unfold pw
 rw [if_pos ⟨hi,hj⟩]; rfl
theorem At.next {i j:Nat} {s:Rat} (h:At a b n m i j s) (ha:Sh a n) (hb:Sh b m) (hi:i < n) (hj:j < m) :
  At a b n m (ni a b i j) (nj a b i j) (nx a b i j)∧s < nx a b i j∧nx a b i j≤a (i+1)∧nx a b i j≤b (j+1)∧(nx a b i j=a (i+1)∨nx a b i j=b (j+1)):=by
 have h1:=h.an hi
 have h2:=h.bm hj
 have h3:=h.ai
 have h4:=h.bj
 unfold nx ni nj
 rcases Decidable.em (b (j+1) < a (i+1)) with hc | hc
 · rw [if_pos hc,if_neg (by grind),if_pos (by grind)]
   refine ⟨⟨by grind,by grind,fun _=>hc,fun hj'=>hb.up (j+1) hj',by omega,by omega⟩,h2,by grind,by grind,.inr rfl⟩
 · rw [if_neg hc,if_pos (by grind)]
   by_cases he:a (i+1)=b (j+1)
   · rw [if_pos (by grind)]
     refine ⟨⟨by grind,by grind,fun hi'=>ha.up (i+1) hi',fun hj'=>by have:=hb.up (j+1) hj'; grind,by omega,by omega⟩,h1,by grind,by grind,.inl rfl⟩
   · rw [if_neg (by grind)]
     refine ⟨⟨by grind,by grind,fun hi'=>ha.up (i+1) hi',fun hj'=>by grind,by omega,by omega⟩,h1,by grind,by grind,.inl rfl⟩
theorem Qs_same {i j:Nat} {s:Rat} (h:At a b n m i j s) (ha:Sh a n) (hb:Sh b m) (hi:i < n) (hj:j < m) :
  Qs a (ni a b i j) (nx a b i j)=Qs a i (nx a b i j)∧Qs b (nj a b i j) (nx a b i j)=Qs b j (nx a b i j):=by
 have u1:=ha.up i hi
 have u2:=hb.up j hj
 unfold nx ni nj
 rcases Decidable.em (b (j+1) < a (i+1)) with hc | hc
 · rw [if_pos hc,if_neg (by grind),if_pos (by grind)]
   exact ⟨rfl,(zsQ u2).symm⟩
 · rw [if_neg hc,if_pos (by grind)]
   by_cases he:a (i+1)=b (j+1)
   · rw [if_pos (by grind)]
     refine ⟨(zsQ u1).symm,?_⟩
     rw [he]; exact (zsQ u2).symm
   · rw [if_neg (by grind)]
     exact ⟨(zsQ u1).symm,rfl⟩
theorem zxr (i j:Nat):i+j < ni a b i j+nj a b i j:=by
 unfold ni nj
 rcases Decidable.em (b (j+1) < a (i+1)) with hc | hc
 · rw [if_neg (by grind),if_pos (by grind)]; omega
 · rw [if_pos (by grind)]
   split <;> omega
theorem pw_asc:∀ (k i j:Nat) (s:Rat),At a b n m i j s→Sh a n→Sh b m→Asc ((Qs a i s,Qs b j s) :: pw a b n m k i j)
 | 0,i,j,s,h,ha,hb=>List.pairwise_singleton _ _
 | k+1,i,j,s,h,ha,hb=>by
   by_cases hc:i < n∧j < m
   · obtain ⟨hi,hj⟩:=hc
     obtain ⟨h1,h2,h3,h4,h5⟩:=h.next ha hb hi hj
     obtain ⟨q1,q2⟩:=Qs_same h ha hb hi hj
     have ih:=pw_asc k _ _ _ h1 ha hb
     rw [q1,q2] at ih
     rw [zsB k hi hj]
     have l1:=Qs_up (ha.up i hi) h2
     have l2:=Qs_up (hb.up j hj) h2
     refine List.pairwise_cons.2 ⟨fun p hp=>?_,ih⟩
     rcases List.mem_cons.1 hp with hp | hp
     · rw [hp]; exact ⟨l1,l2⟩
     · have:=(List.pairwise_cons.1 ih).1 p hp
       dsimp only at this ⊢
       exact ⟨by grind,by grind⟩
   · have:pw a b n m (k+1) i j=[]:=by unfold pw; rw [if_neg hc]
     rw [this]
     exact List.pairwise_singleton _ _
theorem pw_len:∀ (k i j:Nat),(pw a b n m k i j).length≤k
 | 0,_,_=>Nat.le_refl _
 | k+1,i,j=>by
   unfold pw
   split
   · simp only [List.length_cons]
     have:=pw_len k (if a (i+1)≤b (j+1) then i+1 else i) (if b (j+1)≤a (i+1) then j+1 else j)
     omega
   · simp
def IsP (a b:Nat→Rat) (n m:Nat) (p:Pt):Prop:=∃ (i j:Nat) (s:Rat),i < n∧j < m∧a i≤s∧s≤a (i+1)∧b j≤s∧s≤b (j+1)∧(s=a (i+1)∨s=b (j+1))∧p=(Qs a i s,Qs b j s)
theorem pw_is:∀ (k i j:Nat) (s:Rat),At a b n m i j s→Sh a n→Sh b m→∀ p∈pw a b n m k i j,IsP a b n m p
 | 0,i,j,s,h,ha,hb,p,hp=>by cases hp
 | k+1,i,j,s,h,ha,hb,p,hp=>by
   by_cases hc:i < n∧j < m
   · obtain ⟨hi,hj⟩:=hc
     obtain ⟨h1,h2,h3,h4,h5⟩:=h.next ha hb hi hj
     rw [zsB k hi hj] at hp
     rcases List.mem_cons.1 hp with hp | hp
     · exact ⟨i,j,nx a b i j,hi,hj,by have:=h.ai; grind,h3,by have:=h.bj; grind,h4,h5,hp⟩
     · exact pw_is k _ _ _ h1 ha hb p hp
   · have:pw a b n m (k+1) i j=[]:=by unfold pw; rw [if_neg hc]
     rw [this] at hp; cases hp
end
def pts (a b:Nat→Rat) (n m:Nat):List Pt:=(-1 / 2,-1 / 2) :: pw a b n m (n+m) 0 0
theorem at0 {a b:Nat→Rat} {n m:Nat} (ha:Sh a n) (hb:Sh b m):At a b n m 0 0 0:=
 ⟨by rw [ha.zero]; exact Rat.le_refl,by rw [hb.zero]; exact Rat.le_refl,fun h=>by have:=ha.up 0 h; rw [ha.zero] at this; exact this,fun h=>by have:=hb.up 0 h; rw [hb.zero] at this; exact this,by omega,by omega⟩
theorem Qs00 {a:Nat→Rat} {n:Nat} (ha:Sh a n):Qs a 0 0=-1 / 2:=by
 have:=Qs_0 a 0
 rw [ha.zero] at this
 rw [this]
 have:((0:Nat):Rat)=0:=rfl
 rw [this]
 grind
theorem pts_eq {a b:Nat→Rat} {n m:Nat} (ha:Sh a n) (hb:Sh b m):pts a b n m=(Qs a 0 0,Qs b 0 0) :: pw a b n m (n+m) 0 0:=by
 unfold pts; rw [Qs00 ha,Qs00 hb]
theorem pts_asc {a b:Nat→Rat} {n m:Nat} (ha:Sh a n) (hb:Sh b m):Asc (pts a b n m):=by
 rw [pts_eq ha hb]; exact pw_asc _ _ _ _ (at0 ha hb) ha hb
theorem pts_len {a b:Nat→Rat} {n m:Nat} (ha:Sh a n) (hb:Sh b m):2≤(pts a b n m).length∧(pts a b n m).length≤n+m+1:=by
 have h1:=pw_len (a:=a) (b:=b) (n:=n) (m:=m) (n+m) 0 0
 unfold pts
 simp only [List.length_cons]
 refine ⟨?_,by omega⟩
 obtain ⟨k,hk⟩:∃ k,n+m=k+1:=⟨n+m - 1,by have:=ha.pos; omega⟩
 rw [hk,zsB k ha.pos hb.pos]
 simp
theorem pts_is {a b:Nat→Rat} {n m:Nat} (ha:Sh a n) (hb:Sh b m):∀ p∈pts a b n m,p=(-1 / 2,-1 / 2)∨IsP a b n m p:=by
 intro p hp
 unfold pts at hp
 rcases List.mem_cons.1 hp with hp | hp
 · exact .inl hp
 · exact .inr (pw_is _ _ _ _ (at0 ha hb) ha hb p hp)
end Go.Pure
namespace Go.Proofs.YtbhkcgaanaelfaaGreat
open Go.Ab Go.Pure
set_option linter.unusedSimpArgs false
set_option linter.unusedVariables false
set_option maxRecDepth 20000
theorem frac_lt (A B N M:Int) (hN:0 < N) (hM:0 < M):(A:Rat) / (N:Rat) < (B:Rat) / (M:Rat)↔A*M < B*N:=by
 have h1:(0:Rat) < (N:Rat):=Rat.intCast_lt_intCast.2 hN
 have h2:(0:Rat) < (M:Rat):=Rat.intCast_lt_intCast.2 hM
 rw [Rat.div_lt_iff h1]
 have e:(B:Rat) / (M:Rat)*(N:Rat)=((B:Rat)*(N:Rat)) / (M:Rat):=by grind
 rw [e,Rat.lt_div_iff h2,← Rat.intCast_mul,← Rat.intCast_mul,Rat.intCast_lt_intCast]
theorem frac_le (A B N M:Int) (hN:0 < N) (hM:0 < M):(A:Rat) / (N:Rat)≤(B:Rat) / (M:Rat)↔A*M≤B*N:=by
 have:=frac_lt B A M N hM hN
 constructor
 · intro h
   apply Int.not_lt.1
   intro hc
   have:=this.2 hc
   grind
 · intro h
   apply Rat.not_lt.1
   intro hc
   have:=this.1 hc
   omega
theorem ratNe {N:Int} (h:0 < N):(N:Rat)≠0:=by
 intro hc
 have:(N:Rat)=((0:Int):Rat):=hc
 have:=Rat.intCast_inj.1 this
 omega
def FD (x:List Int):Prop:=VD x∧∀ c∈x,1≤c
theorem FD.sum {x:List Int} (h:FD x):1≤x.sum∧x.sum≤1048576:=by
 have h1:=h.1.1
 have h2:=h.1.sum
 have h3:=zs1 (l:=x) (i:=0) (by omega)
 have h4:=h.2 x[0] (List.getElem_mem (by omega))
 have h5:=h.1.drop (0+1)
 rw [List.drop_zero] at h3
 omega
theorem FD.at {x:List Int} (h:FD x) {i:Nat} (hi:i < x.length):1≤x[i]∧x[i]≤1048576:=⟨h.2 _ (List.getElem_mem hi),(h.1.at hi).2⟩
theorem FD.take {x:List Int} (h:FD x) (i:Nat):0≤(x.take i).sum∧(x.take i).sum≤x.sum:=by
 have h1:=h.1.take i
 have h2:=h.1.drop i
 have:=zj2 x i
 omega
def shr (x:List Int) (i:Nat):Rat:=((x.take i).sum:Rat) / (x.sum:Rat)
theorem FD.sh {x:List Int} (h:FD x):Sh (shr x) x.length:=by
 have hs:=h.sum
 have hne:=ratNe (show 0 < x.sum by omega)
 refine ⟨?_,?_,fun i hi=>?_,h.1.1⟩
 · unfold shr
   rw [List.take_zero]
   show ((0:Int):Rat) / _=0
   show (0:Rat) / _=0
   rw [Rat.div_def]; grind
 · unfold shr
   rw [List.take_length]
   grind
 · unfold shr
   rw [frac_lt _ _ _ _ (by omega) (by omega),zjc hi]
   have:=h.at hi
   exact Int.mul_lt_mul_of_pos_right (by omega) (by omega)
theorem shr_diff {x:List Int} (h:FD x) {i:Nat} (hi:i < x.length):shr x (i+1) - shr x i=(x[i]:Rat) / (x.sum:Rat):=by
 unfold shr
 rw [zjc hi,Rat.intCast_add]
 have hne:=ratNe (show 0 < x.sum by have:=h.sum; omega)
 grind
theorem Qs_frac {x:List Int} (h:FD x) {i:Nat} (hi:i < x.length) (p w:Int) (hw:0 < w) :
  Qs (shr x) i ((p:Rat) / (w:Rat))=mkRat (2*i - 1) 2+mkRat (p*x.sum - (x.take i).sum*w) (w*x[i]).toNat:=by
 have hs:=h.sum
 have ha:=h.at hi
 have hpos:0 < w*x[i]:=Int.mul_pos hw (by omega)
 have e1:(((w*x[i]).toNat:Nat):Rat)=(w:Rat)*(x[i]:Rat):=by
  rw [← Rat.intCast_mul]
  have:(((w*x[i]).toNat:Nat):Int)=w*x[i]:=by omega
  rw [← this]; rfl
 have e2:((2*(i:Int) - 1:Int):Rat)=2*(i:Rat) - 1:=by
  rw [Rat.intCast_sub,Rat.intCast_mul]; rfl
 have e3:((p*x.sum - (x.take i).sum*w:Int):Rat)=(p:Rat)*(x.sum:Rat) - ((x.take i).sum:Rat)*(w:Rat):=by
  rw [Rat.intCast_sub,Rat.intCast_mul,Rat.intCast_mul]
 have e4:((2:Nat):Rat)=2:=rfl
 rw [Rat.mkRat_eq_div,Rat.mkRat_eq_div,e1,e2,e3,e4]
 unfold Qs
 rw [shr_diff h hi]
 unfold shr
 have n1:=ratNe (show 0 < x.sum by omega)
 have n2:=ratNe hw
 have n3:=ratNe (show 0 < x[i] by omega)
 generalize (x.sum:Rat)=N at *
 generalize (w:Rat)=W at *
 generalize (x[i]:Rat)=c at *
 generalize ((x.take i).sum:Rat)=X at *
 generalize (p:Rat)=P at *
 generalize (i:Rat)=I at *
 have n4:c / N≠0:=by
  intro hc
  have:c=c / N*N:=by grind
  grind
 have f1:(P / W - X / N) / (c / N)=(P*N - X*W) / (W*c):=by
  have g1:(P / W - X / N)*(W*c)=(P*N - X*W)*(c / N):=by grind
  have g2:W*c≠0:=by
   intro hc
   rcases Rat.mul_eq_zero.1 hc with hc | hc
   · exact n2 hc
   · exact n3 hc
  grind
 rw [f1]
 grind
theorem bd_mk {N:Int} {D n d:Nat} (h0:0 < D) (h1:N.natAbs≤2 ^ n) (h2:D≤2 ^ d):Bd n d (mkRat N D):=by
 have hne:D≠0:=by omega
 constructor
 · rw [Rat.num_mkRat,if_neg hne]
   exact Nat.le_trans (zoS _ _) h1
 · rw [Rat.den_mkRat,if_neg hne]
   exact Nat.le_trans (Nat.div_le_self _ _) h2
theorem bd_fit {n d:Nat} {r:Rat} (h:Bd n d r) (h1:n≤60) (h2:d≤60):Fit r:=(h.mono h1 h2:Bd 60 60 r)
structure QB (x:List Int) (i:Nat) (p w:Int):Prop where
 m1:p*x.sum≤1099511627776
 m2:0≤p*x.sum
 m3:(x.take i).sum*w≤1099511627776
 m4:0≤(x.take i).sum*w
 m5:1≤w*(x[i]?.getD 0)
 m6:w*(x[i]?.getD 0)≤1099511627776
theorem qb {x:List Int} (h:FD x) {i:Nat} (hi:i < x.length) {p w:Int} (hw:0 < w) (hw2:w≤1048576) (hp0:0≤p) (hp2:p≤1048576):QB x i p w:=by
 have hs:=h.sum
 have ha:=h.at hi
 have ht:=h.take i
 have e:x[i]?.getD 0=x[i]:=by rw [List.getElem?_eq_getElem hi]; rfl
 have m1:p*x.sum≤1048576*1048576:=Int.mul_le_mul hp2 hs.2 (by omega) (by omega)
 have m2:0≤p*x.sum:=Int.mul_nonneg hp0 (by omega)
 have m3:(x.take i).sum*w≤1048576*1048576:=Int.mul_le_mul (by omega) hw2 (by omega) (by omega)
 have m4:0≤(x.take i).sum*w:=Int.mul_nonneg ht.1 (by omega)
 have m5:0 < w*x[i]:=Int.mul_pos hw (by omega)
 have m6:w*x[i]≤1048576*1048576:=Int.mul_le_mul hw2 ha.2 (by omega) (by omega)
 exact ⟨by omega,m2,by omega,m4,by rw [e]; omega,by rw [e]; omega⟩
theorem Qs_fit {x:List Int} (h:FD x) {i:Nat} (hi:i < x.length) {p w:Int} (hw:0 < w) (hw2:w≤1048576) (hp0:0≤p) (hp2:p≤1048576):Fit (Qs (shr x) i ((p:Rat) / (w:Rat)))∧Fit (mkRat (2*i - 1) 2)∧Fit (mkRat (p*x.sum - (x.take i).sum*w) (w*x[i]).toNat):=by
 obtain ⟨m1,m2,m3,m4,m5,m6⟩:=qb h hi hw hw2 hp0 hp2
 have e:x[i]?.getD 0=x[i]:=by rw [List.getElem?_eq_getElem hi]; rfl
 rw [e] at m5 m6
 have hl:=h.1.2.1
 have b1:Bd 9 1 (mkRat (2*(i:Int) - 1) 2):=bd_mk (by omega) (by show _≤512; omega) (by show _≤2; omega)
 have b2:Bd 40 40 (mkRat (p*x.sum - (x.take i).sum*w) (w*x[i]).toNat):=bd_mk (by omega) (by show _≤1099511627776; omega) (by show _≤1099511627776; omega)
 refine ⟨?_,bd_fit b1 (by omega) (by omega),bd_fit b2 (by omega) (by omega)⟩
 rw [Qs_frac h hi p w hw]
 exact bd_fit (b1.add b2 (N:=50) (D:=41) (by omega) (by omega) (by omega)) (by omega) (by omega)
def bel (x:List Int):List Int:=(List.range (x.length+1)).map fun i=>(x.take i).sum
theorem zsy (x:List Int):(bel x).length=x.length+1:=by simp [bel]
theorem bel_at (x:List Int) {i:Nat} (hi:i < (bel x).length):(bel x)[i]=(x.take i).sum:=by simp [bel]
theorem k_sums {x:List Int} (h:FD x):∀ (k i:Nat),i+k=x.length→ziI ⟨x⟩ (List.map zai ((List.range (i+1)).map fun i=>(x.take i).sum)) (i:Int)=some (zkx (bel x)):=by
 have hl:=h.1.2.1
 intro k
 induction k with
 | zero =>
   intro i hi
   refine zp5 _ _ _ ?_
   dsimp only
   rw [zad,if_neg (by show ¬ (i:Int) < ((List.map zai x).length:Int); rw [lenI]; omega),zac rfl,show i=x.length by omega]
   rfl
 | succ k ih =>
   intro i hi
   have e:w64 ((i:Int)+1)=((i+1:Nat):Int):=by rw [w64_id (by omega) (by omega)]; omega
   have ht:=h.take i
   have ha:=h.at (show i < x.length by omega)
   have hs:=h.sum
   refine zp5 _ _ _ ?_
   dsimp only
   rw [zad,if_pos (by show (i:Int) < ((List.map zai x).length:Int); rw [lenI]; omega),zac (by omega),Int.toNat_natCast]
   show elemD zaw (List.map zai x) i _=_
   rw [elemI (by omega),zac (by omega),zac (by rw [lenI]; simp; omega),Nat.zero_add,elemI (i:=i) (by simp)]
   have eg:((List.range (i+1)).map fun i=>(x.take i).sum)[i]'(by simp)=(x.take i).sum:=by simp
   rw [eg,zac rfl,zac (by rw [lenI]; simp; omega),zac rfl,e,w64_id (by omega) (by omega),← zjc (show i < x.length by omega),← ih (i+1) (by omega)]
   congr 1
   rw [List.range_succ (n:=i+1),List.map_append,List.map_append]
   rfl
theorem c_sums {x:List Int} (h:FD x):cw zkB [aD x] []=some (zkx (bel x)):=by
 refine zxD _ ?_
 rw [zac rfl]
 exact k_sums h x.length 0 (by omega)
theorem ztm {x:List Int} (h:FD x) {i:Nat} (hi:i < x.length) (p w:Int) (hw:0 < w) (hw2:w≤1048576) (hp0:0≤p) (hp2:p≤1048576) :
  cw zft [.sl 1 (List.map zai (bel x)),I (i:Int),I p,I w] []=some (zmf (ofR (Qs (shr x) i ((p:Rat) / (w:Rat))),0)):=by
 have hl:=h.1.2.1
 have hs:=h.sum
 have ha:=h.at hi
 have ht:=h.take i
 obtain ⟨m1,m2,m3,m4,m5,m6⟩:=qb h hi hw hw2 hp0 hp2
 have eg:x[i]?.getD 0=x[i]:=by rw [List.getElem?_eq_getElem hi]; rfl
 rw [eg] at m5 m6
 obtain ⟨f1,f2,f3⟩:=Qs_fit h hi hw hw2 hp0 hp2
 have hlen:=zsy x
 have hD:w*x[i]=(((w*x[i]).toNat:Nat):Int):=by omega
 have n1:=c_NewG (2*(i:Int) - 1) 2 (by omega) (by omega) (by omega) (by omega)
 have n2:=c_NewG (p*x.sum - (x.take i).sum*w) (w*x[i]) (by omega) (by omega) (by omega) (by omega)
 have v1:newR (2*(i:Int) - 1) 2=(ofR (mkRat (2*i - 1) 2),0):=(znp (N:=2*(i:Int) - 1) (D:=2) (by omega) (by omega) (by omega)).1
 have v2:=(znp (N:=p*x.sum - (x.take i).sum*w) (D:=(w*x[i]).toNat) (by omega) (by omega) (by omega)).1
 rw [← hD] at v2
 rw [v1] at n1
 rw [v2] at n2
 have ad:=zsN _ _ f2 f3
 rw [← Qs_frac h hi p w hw,zbI f1] at ad
 refine zwc _ _ _ _ ?_
 have e0:w64 (((List.map zai (bel x)).length:Int) - 1)=((x.length:Nat):Int):=by rw [lenI,hlen,w64_id (by omega) (by omega)]; omega
 have e1:w64 ((i:Int)+1)=((i+1:Nat):Int):=by rw [w64_id (by omega) (by omega)]; omega
 have e2:w64 (w64 (2*(i:Int)) - 1)=2*i - 1:=by rw [w64_id (n:=2*(i:Int)) (by omega) (by omega),w64_id (by omega) (by omega)]
 rw [e0,zac (by omega),Int.toNat_natCast,elemI (by omega),bel_at,List.take_length,e2,n1,zkE,brn_f (by rfl),zac (by omega),Int.toNat_natCast,elemI (by omega),bel_at,e1,zac (by omega),Int.toNat_natCast,elemI (by omega),bel_at,
  zac (by omega),elemI (by omega),bel_at,zjc hi]
 have e3:w64 ((x.take i).sum+x[i] - (x.take i).sum)=x[i]:=by rw [w64_id (by omega) (by omega)]; omega
 rw [e3,w64_id (n:=p*x.sum) (by omega) (by omega),w64_id (n:=(x.take i).sum*w) (by omega) (by omega),w64_id (n:=p*x.sum - (x.take i).sum*w) (by omega) (by omega),w64_id (n:=w*x[i]) (by omega) (by omega),
  n2,zkE,brn_f (by rfl),ad,ze7]
 rfl
theorem zmB (x:List Int) (hl:x.length≤100000):cw ze0 [.sl 1 (List.map zai x),I 0] []=some (zgS (dec ((0:Int)∈x))):=by
 have key:∀ (k i:Nat),i+k=x.length→(∀ j (h:j < x.length),j < i→x[j]≠0)→∃ v:Int,zfa x 0 (i:Int)=some (zih v)∧decide (0≤v)=dec ((0:Int)∈x):=by
  intro k
  induction k with
  | zero =>
    intro i hi hp
    refine ⟨-1,zhb _ _ _ ?_,?_⟩
    · rw [zad,if_neg (by rw [lenI]; omega)]; rfl
    · rw [zaF (fun h=>by
       obtain ⟨j,hj,e⟩:=List.mem_iff_getElem.1 h
       exact hp j hj (by omega) e)]; rfl
  | succ k ih =>
    intro i hi hp
    have e:w64 ((i:Int)+1)=((i+1:Nat):Int):=by rw [w64_id (by omega) (by omega)]; omega
    by_cases h0:x[i]=0
    · refine ⟨(i:Int),zhb _ _ _ ?_,?_⟩
      · rw [zad,if_pos (by rw [lenI]; omega),zac (by omega),Int.toNat_natCast,elemI (by omega),h0,brn_t (by rfl)]; rfl
      · rw [zav (h0▸List.getElem_mem (by omega)),decide_eq_true (by omega)]
    · obtain ⟨v,h1,h2⟩:=ih (i+1) (by omega) (fun j hj hji=>by
       rcases Nat.lt_or_eq_of_le (Nat.le_of_lt_succ hji) with h | h
       · exact hp j hj h
       · subst h; exact h0)
      refine ⟨v,zhb _ _ _ ?_,h2⟩
      rw [zad,if_pos (by rw [lenI]; omega),zac (by omega),Int.toNat_natCast,elemI (by omega),brn_f (beq_false_of_ne (fun h=>h0 h.symm)),e]
      exact h1
 obtain ⟨v,h1,h2⟩:=key x.length 0 (by omega) (fun j _ h=>by omega)
 refine zqp _ _ ?_
 rw [zrS x 0 h1,zpH,h2]
 rfl
theorem c_full (x:List Int) (hl:x.length≤100000):cw znR [aD x] []=some (zoi (dec (¬ (0:Int)∈x))):=by
 have key:∀ (k i:Nat),i+k=x.length→(∀ j (h:j < x.length),j < i→x[j]≠0)→zlK ⟨x⟩ (i:Int)=some (zoi (dec (¬ (0:Int)∈x))):=by
  intro k
  induction k with
  | zero =>
    intro i hi hp
    refine zsP _ _ ?_
    dsimp only
    rw [zad,if_neg (by rw [lenI]; omega),zav (fun h=>by
        obtain ⟨j,hj,e⟩:=List.mem_iff_getElem.1 h
        exact hp j hj (by omega) e)]; rfl
  | succ k ih =>
    intro i hi hp
    have e:w64 ((i:Int)+1)=((i+1:Nat):Int):=by rw [w64_id (by omega) (by omega)]; omega
    refine zsP _ _ ?_
    dsimp only
    rw [zad,if_pos (by rw [lenI]; omega),zac (by omega),Int.toNat_natCast,elemI (by omega)]
    by_cases h0:x[i]=0
    · rw [h0,brn_t (by rfl),zaF (fun h=>h (h0▸List.getElem_mem (by omega)))]; rfl
    · rw [brn_f (beq_false_of_ne h0),e]
      exact ih (i+1) (by omega) (fun j hj hji=>by
       rcases Nat.lt_or_eq_of_le (Nat.le_of_lt_succ hji) with h | h
       · exact hp j hj h
       · subst h; exact h0)
 exact zA3 _ (key x.length 0 (by omega) (fun j _ h=>by omega))
theorem fd_of {x:List Int} (h:VD x) (h0:¬ (0:Int)∈x):FD x:=⟨h,fun c hc=>by
 have:=h.2.2.1 c hc
 have:c≠0:=fun e=>h0 (e▸hc)
 omega⟩
def pcP (x y:List Int):List Pt:=pts (shr x) (shr y) x.length y.length
theorem half_fit:Fit (-1 / 2:Rat):=by decide +kernel
theorem pcP_asc {x y:List Int} (hx:FD x) (hy:FD y):Asc (pcP x y):=pts_asc hx.sh hy.sh
theorem pcP_len {x y:List Int} (hx:FD x) (hy:FD y):2≤(pcP x y).length∧(pcP x y).length≤x.length+y.length+1:=pts_len hx.sh hy.sh
theorem pcP_fit {x y:List Int} (hx:FD x) (hy:FD y):AllF (pcP x y):=fun p hp=>by
 rcases pts_is hx.sh hy.sh p hp with rfl | ⟨i,j,s,hi,hj,_,_,_,_,hs,rfl⟩
 · exact ⟨half_fit,half_fit⟩
 · have ux:=hx.sum
   have uy:=hy.sum
   rcases hs with rfl | rfl
   · have tx:=hx.take (i+1)
     exact ⟨(Qs_fit hx hi (p:=(x.take (i+1)).sum) (w:=x.sum) (by omega) (by omega) (by omega) (by omega)).1,(Qs_fit hy hj (p:=(x.take (i+1)).sum) (w:=x.sum) (by omega) (by omega) (by omega) (by omega)).1⟩
   · have ty:=hy.take (j+1)
     exact ⟨(Qs_fit hx hi (p:=(y.take (j+1)).sum) (w:=y.sum) (by omega) (by omega) (by omega) (by omega)).1,(Qs_fit hy hj (p:=(y.take (j+1)).sum) (w:=y.sum) (by omega) (by omega) (by omega) (by omega)).1⟩
section
theorem lt_shr {x y:List Int} (hx:FD x) (hy:FD y) (i j:Nat):shr y j < shr x i↔(y.take j).sum*x.sum < (x.take i).sum*y.sum:=by
 have:=hx.sum
 have:=hy.sum
 exact frac_lt _ _ _ _ (by omega) (by omega)
theorem le_shr {x y:List Int} (hx:FD x) (hy:FD y) (i j:Nat):shr x i≤shr y j↔(x.take i).sum*y.sum≤(y.take j).sum*x.sum:=by
 have:=hx.sum
 have:=hy.sum
 exact frac_le _ _ _ _ (by omega) (by omega)
noncomputable abbrev rP (P:List Pt):Option (AV×Mem):=some (zeY (nfR P))
structure PcH (P:List Pt):Prop where
 asc:Asc P
 two:2≤P.length
 len:P.length≤410
 fit:AllF P
theorem zvv {x y:List Int} (N M:Int) (P:List Pt) (hP:PcH P) (i j:Int):zcI ⟨x⟩ ⟨y⟩ (bel x) (bel y) N M j (ptsE P) i=rP P:=by
 refine zpx _ _ _ _ _ _ _ _ _ ?_
 have hn:cw zhs [.agg (zak (cF P))] []=some (zkp (nfR P)):=by
  refine zub _ ?_
  rw [zf9,zbi,zav (vc_of hP.fit hP.asc hP.two hP.len),brn_nt]
  show callD zew (cw zfJ [.sl 4 (ptsE P)] []) _=_
  rw [zy2 P hP.asc hP.two hP.len hP.fit,zl0]
  rfl
 rw [zac (by omega),List.take_length]
 show callD zfG (cw zhs [.agg (zak (cF P))] []) _=_
 rw [hn,zrj,zac (by omega),zac (by omega),zac (by omega)]
 rfl
def Loop (x y:List Int) (P F:List Pt) (i j:Nat):Prop:=
 zee ⟨x⟩ ⟨y⟩ (bel x) (bel y) x.sum y.sum (ptsE F) (i:Int) (j:Int)=rP P ∧
 ze1 ⟨x⟩ ⟨y⟩ (bel x) (bel y) x.sum y.sum (j:Int) (ptsE F) (i:Int)=rP P
theorem k_P1024 {x y:List Int} (hx:FD x) (hy:FD y) (P F:List Pt) (i i' j:Nat) (hi:i+1≤x.length) (hj:j+1≤y.length) (hl:Loop x y P F i' (nj (shr x) (shr y) i j)) :
  zdk ⟨x⟩ ⟨y⟩ (bel x) (bel y) x.sum y.sum (j:Int) (ptsE F) (i':Int) ((x.take (i+1)).sum*y.sum) ((y.take (j+1)).sum*x.sum)=rP P ∧
  zc3 ⟨x⟩ ⟨y⟩ (bel x) (bel y) x.sum y.sum (j:Int) (ptsE F) (i':Int) ((x.take (i+1)).sum*y.sum) ((y.take (j+1)).sum*x.sum)=rP P:=by
 have hl2:=hy.1.2.1
 have e:w64 ((j:Int)+1)=((j+1:Nat):Int):=by rw [w64_id (by omega) (by omega)]; omega
 have hc:=le_shr hy hx (j+1) (i+1)
 unfold nj at hl
 constructor
 · refine zpW _ _ _ _ _ _ _ _ _ _ _ ?_
   rw [zad,e]
   by_cases h:(y.take (j+1)).sum*x.sum≤(x.take (i+1)).sum*y.sum
   · rw [if_pos h]; rw [if_pos (hc.2 h)] at hl; exact hl.1
   · rw [if_neg h]; rw [if_neg (fun h'=>h (hc.1 h'))] at hl; exact hl.2
 · refine zoW _ _ _ _ _ _ _ _ _ _ _ ?_
   rw [zad,e]
   by_cases h:(y.take (j+1)).sum*x.sum≤(x.take (i+1)).sum*y.sum
   · rw [if_pos h]; rw [if_pos (hc.2 h)] at hl; exact hl.1
   · rw [if_neg h]; rw [if_neg (fun h'=>h (hc.1 h'))] at hl; exact hl.2
theorem zAz {x y:List Int} (hx:FD x) (hy:FD y) (P:List Pt) (hP:PcH P) :
  ∀ (k i j:Nat) (s:Rat) (F:List Pt),At (shr x) (shr y) x.length y.length i j s→(x.length - i)+(y.length - j)≤k→F.length≤1000+i+j→P=F++pw (shr x) (shr y) x.length y.length k i j→Loop x y P F i j:=by
 have sx:=hx.sh
 have sy:=hy.sh
 have lx:=hx.1.2.1
 have ly:=hy.1.2.1
 have ux:=hx.sum
 have uy:=hy.sum
 have blx:=zsy x
 have bly:=zsy y
 intro k
 induction k with
 | zero =>
   intro i j s F h hk hF hPe
   have e:P=F:=by rw [hPe]; simp [pw]
   subst e
   have him:=h.im
   have hjm:=h.jm
   constructor
   · refine zhA _ _ _ _ _ _ _ _ _ ?_
     rw [zad,if_neg (by show ¬ (i:Int) < ((List.map zai x).length:Int); rw [lenI]; omega)]
     exact zvv _ _ P hP _ _
   · refine zgR _ _ _ _ _ _ _ _ _ ?_
     rw [zad,if_neg (by show ¬ (i:Int) < ((List.map zai x).length:Int); rw [lenI]; omega)]
     exact zvv _ _ P hP _ _
 | succ k ih =>
   intro i j s F h hk hF hPe
   have him:=h.im
   have hjm:=h.jm
   by_cases hi:i < x.length
   · have hj:j < y.length:=(h.both sx sy).1 hi
     obtain ⟨h1,h2,h3,h4,h5⟩:=h.next sx sy hi hj
     have hless:=zxr (a:=shr x) (b:=shr y) i j
     have him':=h1.im
     have hjm':=h1.jm
     rw [zsB k hi hj] at hPe
     have hrec:=ih (ni (shr x) (shr y) i j) (nj (shr x) (shr y) i j) (nx (shr x) (shr y) i j) (F++[(Qs (shr x) i (nx (shr x) (shr y) i j),Qs (shr y) j (nx (shr x) (shr y) i j))]) h1 (by omega) (by simp; omega) (by rw [hPe]; simp)
     have tx:=hx.take (i+1)
     have ty:=hy.take (j+1)
     have m1:(x.take (i+1)).sum*y.sum≤1048576*1048576:=Int.mul_le_mul (by omega) uy.2 (by omega) (by omega)
     have m2:0≤(x.take (i+1)).sum*y.sum:=Int.mul_nonneg tx.1 (by omega)
     have m3:(y.take (j+1)).sum*x.sum≤1048576*1048576:=Int.mul_le_mul (by omega) ux.2 (by omega) (by omega)
     have m4:0≤(y.take (j+1)).sum*x.sum:=Int.mul_nonneg ty.1 (by omega)
     have ei:w64 ((i:Int)+1)=((i+1:Nat):Int):=by rw [w64_id (by omega) (by omega)]; omega
     have ej:w64 ((j:Int)+1)=((j+1:Nat):Int):=by rw [w64_id (by omega) (by omega)]; omega
     have hc:=le_shr hx hy (i+1) (j+1)
     have hF':ptsE F++[zag (ofP (Qs (shr x) i (nx (shr x) (shr y) i j),Qs (shr y) j (nx (shr x) (shr y) i j)))]=ptsE (F++[(Qs (shr x) i (nx (shr x) (shr y) i j),Qs (shr y) j (nx (shr x) (shr y) i j))]):=by
      simp only [ptsE,List.map_append,List.map_cons,List.map_nil]
     have ani:=h.ai
     have bnj:=h.bj
     have tail:∀ (A B:Option (AV×Mem)),
       (shr x (i+1)≤shr y (j+1)→A=zdk ⟨x⟩ ⟨y⟩ (bel x) (bel y) x.sum y.sum (j:Int) (ptsE (F++[(Qs (shr x) i (nx (shr x) (shr y) i j),Qs (shr y) j (nx (shr x) (shr y) i j))])) (w64 ((i:Int)+1)) ((x.take (i+1)).sum*y.sum) ((y.take (j+1)).sum*x.sum)) →
       (¬ shr x (i+1)≤shr y (j+1)→B=zc3 ⟨x⟩ ⟨y⟩ (bel x) (bel y) x.sum y.sum (j:Int) (ptsE (F++[(Qs (shr x) i (nx (shr x) (shr y) i j),Qs (shr y) j (nx (shr x) (shr y) i j))])) (i:Int) ((x.take (i+1)).sum*y.sum) ((y.take (j+1)).sum*x.sum)) →
       brn (decide ((x.take (i+1)).sum*y.sum≤(y.take (j+1)).sum*x.sum)) A B=rP P:=by
      intro A B hA hB
      rw [zad]
      by_cases hle:shr x (i+1)≤shr y (j+1)
      · rw [if_pos (hc.1 hle),hA hle,ei]
        have:ni (shr x) (shr y) i j=i+1:=by unfold ni; rw [if_pos hle]
        rw [this] at hrec
        exact (k_P1024 hx hy P _ i (i+1) j (by omega) (by omega) hrec).1
      · rw [if_neg (fun h'=>hle (hc.2 h')),hB hle]
        have:ni (shr x) (shr y) i j=i:=by unfold ni; rw [if_neg hle]
        rw [this] at hrec
        exact (k_P1024 hx hy P _ i i j (by omega) (by omega) hrec).2
     have f1015:shr y (j+1) < shr x (i+1)→zeF ⟨x⟩ ⟨y⟩ (bel x) (bel y) x.sum y.sum (j:Int) (ptsE F) (i:Int) ((x.take (i+1)).sum*y.sum) ((y.take (j+1)).sum*x.sum) (y.take (j+1)).sum=rP P:=by
      intro hlt
      have enx:nx (shr x) (shr y) i j=(((y.take (j+1)).sum:Int):Rat) / ((y.sum:Int):Rat):=by unfold nx; rw [if_pos hlt]; rfl
      have c1:=ztm hx hi (y.take (j+1)).sum y.sum (by omega) (by omega) (by omega) (by omega)
      have c2:=ztm hy hj (y.take (j+1)).sum y.sum (by omega) (by omega) (by omega) (by omega)
      rw [← enx] at c1 c2
      refine zpN _ _ _ _ _ _ _ _ _ _ _ _ ?_
      rw [zac (by omega),List.take_length,c1,zgj,brn_f (by rfl),zac (by omega),List.take_length,c2,zgj,brn_f (by rfl),zac rfl,zac (by rw [lenP]; omega),zac rfl]
      refine tail _ _ (fun _=>?_) (fun _=>?_) <;> rw [← hF'] <;> rfl
     have f1015v:¬ shr y (j+1) < shr x (i+1)→zeb ⟨x⟩ ⟨y⟩ (bel x) (bel y) x.sum y.sum (j:Int) (ptsE F) (i:Int) ((x.take (i+1)).sum*y.sum) ((y.take (j+1)).sum*x.sum) (x.take (i+1)).sum=rP P:=by
      intro hlt
      have enx:nx (shr x) (shr y) i j=(((x.take (i+1)).sum:Int):Rat) / ((x.sum:Int):Rat):=by unfold nx; rw [if_neg hlt]; rfl
      have c1:=ztm hx hi (x.take (i+1)).sum x.sum (by omega) (by omega) (by omega) (by omega)
      have c2:=ztm hy hj (x.take (i+1)).sum x.sum (by omega) (by omega) (by omega) (by omega)
      rw [← enx] at c1 c2
      refine zoY _ _ _ _ _ _ _ _ _ _ _ _ ?_
      rw [zac (by omega),List.take_length,c1,zgj,brn_f (by rfl),zac (by omega),List.take_length,c2,zgj,brn_f (by rfl),zac rfl,zac (by rw [lenP]; omega),zac rfl]
      refine tail _ _ (fun _=>?_) (fun _=>?_) <;> rw [← hF'] <;> rfl
     have hcl:=lt_shr hx hy (i+1) (j+1)
     constructor
     · refine zhA _ _ _ _ _ _ _ _ _ ?_
       rw [zad,if_pos (by show (i:Int) < ((List.map zai x).length:Int); rw [lenI]; omega),zad,if_pos (by show (j:Int) < ((List.map zai y).length:Int); rw [lenI]; omega),ei,ej,lenI,lenI,zac (by omega),zac (by omega),Int.toNat_natCast,Nat.zero_add,elemI (by omega),bel_at,zac (by omega),zac (by omega),Int.toNat_natCast,Nat.zero_add,elemI (by omega),bel_at,
        zac (by omega),zac (by omega),elemI (by omega),bel_at,zad,w64_id (n:=(y.take (j+1)).sum*x.sum) (by omega) (by omega),w64_id (n:=(x.take (i+1)).sum*y.sum) (by omega) (by omega)]
       by_cases hlt:shr y (j+1) < shr x (i+1)
       · rw [if_pos (hcl.1 hlt),zac (by omega),zac (by omega),elemI (by omega),bel_at]
         exact f1015 hlt
       · rw [if_neg (fun h'=>hlt (hcl.2 h'))]
         exact f1015v hlt
     · refine zgR _ _ _ _ _ _ _ _ _ ?_
       rw [zad,if_pos (by show (i:Int) < ((List.map zai x).length:Int); rw [lenI]; omega),zad,if_pos (by show (j:Int) < ((List.map zai y).length:Int); rw [lenI]; omega),ei,ej,lenI,lenI,zac (by omega),zac (by omega),Int.toNat_natCast,Nat.zero_add,elemI (by omega),bel_at,zac (by omega),zac (by omega),Int.toNat_natCast,Nat.zero_add,elemI (by omega),bel_at,
        zac (by omega),zac (by omega),elemI (by omega),bel_at,zad,w64_id (n:=(y.take (j+1)).sum*x.sum) (by omega) (by omega),w64_id (n:=(x.take (i+1)).sum*y.sum) (by omega) (by omega)]
       by_cases hlt:shr y (j+1) < shr x (i+1)
       · rw [if_pos (hcl.1 hlt),zac (by omega),zac (by omega),elemI (by omega),bel_at]
         exact f1015 hlt
       · rw [if_neg (fun h'=>hlt (hcl.2 h'))]
         exact f1015v hlt
   · have e:P=F:=by
      rw [hPe]
      have:pw (shr x) (shr y) x.length y.length (k+1) i j=[]:=by unfold pw; rw [if_neg (fun h'=>hi h'.1)]
      rw [this,List.append_nil]
     subst e
     constructor
     · refine zhA _ _ _ _ _ _ _ _ _ ?_
       rw [zad,if_neg (by show ¬ (i:Int) < ((List.map zai x).length:Int); rw [lenI]; omega)]
       exact zvv _ _ P hP _ _
     · refine zgR _ _ _ _ _ _ _ _ _ ?_
       rw [zad,if_neg (by show ¬ (i:Int) < ((List.map zai x).length:Int); rw [lenI]; omega)]
       exact zvv _ _ P hP _ _
end
theorem zu8 {x y:List Int} (hx:FD x) (hy:FD y):cw zc1 [aD x,aD y] []=some (zeY (nfR (pcP x y))):=by
 have lx:=hx.1.2.1
 have ly:=hy.1.2.1
 have blx:=zsy x
 have bly:=zsy y
 have n0:∀ {z:List Int},FD z→¬ (0:Int)∈z:=fun h hc=>by have:=h.2 0 hc; omega
 refine zeS _ _ ?_
 have e1:w64 (((List.map zai (bel x)).length:Int) - 1)=((x.length:Nat):Int):=by rw [lenI,blx,w64_id (by omega) (by omega)]; omega
 have e2:w64 (((List.map zai (bel y)).length:Int) - 1)=((y.length:Nat):Int):=by rw [lenI,bly,w64_id (by omega) (by omega)]; omega
 rw [zdD,zaK,zav hx.1,brn_nt,zdD,zaK,zav hy.1,brn_nt,zmB x (by omega),zcT,zaF (n0 hx),brn_F,zmB y (by omega),zcT,zaF (n0 hy),brn_F,c_sums hx,zoD,c_sums hy,zoD,e1,e2,lenI,lenI,zac (by omega),zac (by omega),Int.toNat_natCast,Nat.zero_add,elemI (by omega),bel_at,List.take_length,
  zac (by omega),zac (by omega),Int.toNat_natCast,Nat.zero_add,elemI (by omega),bel_at,List.take_length,zac rfl]
 have hh:ofR (-1 / 2:Rat)=⟨-1,2⟩:=by
  have h1:(-1 / 2:Rat).num=-1:=by decide +kernel
  have h2:(-1 / 2:Rat).den=2:=by decide +kernel
  unfold ofR
  rw [h1,h2]
  rfl
 have hl:=pcP_len hx hy
 have key:=(zAz hx hy (pcP x y) ⟨pcP_asc hx hy,hl.1,by omega,pcP_fit hx hy⟩ (x.length+y.length) 0 0 0 [(-1 / 2,-1 / 2)] (at0 hx.sh hy.sh) (by omega) (by simp) rfl).1
 unfold rP at key
 rw [← key]
 have e3:ptsE [((-1 / 2:Rat),(-1 / 2:Rat))]=[zag ⟨⟨-1,2⟩,⟨-1,2⟩⟩]:=by
  show [zag (ofP (-1 / 2,-1 / 2))]=_
  unfold ofP
  rw [hh]
 rw [e3]
 rfl
end Go.Proofs.YtbhkcgaanaelfaaGreat
namespace Go.Proofs.YtbhkcgaanaelfaaGreat
open Go.Ab Go.Pure
set_option linter.unusedSimpArgs false
set_option linter.unusedVariables false
set_option maxRecDepth 20000
theorem sh_mono {a:Nat→Rat} {n:Nat} (h:Sh a n):∀ (m i:Nat),i+m≤n→a i≤a (i+m)
 | 0,i,_=>Rat.le_refl
 | m+1,i,hm=>by
   have h1:=sh_mono h m i (by omega)
   have h2:=h.up (i+m) (by omega)
   have e:i+(m+1)=i+m+1:=by omega
   rw [e]; grind
theorem half_of (k:Nat):mkRat (2*(k:Int) - 1) 2=(k:Rat) - 1 / 2:=by
 have e2:((2*(k:Int) - 1:Int):Rat)=2*(k:Rat) - 1:=by
  rw [Rat.intCast_sub,Rat.intCast_mul]; rfl
 have e4:((2:Nat):Rat)=2:=rfl
 rw [Rat.mkRat_eq_div,e2,e4]
 grind
theorem c_at0 {z:List Int} (h:FD z) {k:Nat} (hk:k < z.length) (p w:Int) (hw:0 < w) (hw2:w≤1048576) (hp0:0≤p) (hp2:p≤1048576) (h1:shr z k≤(p:Rat) / (w:Rat)) (h2:k+1=z.length∨(p:Rat) / (w:Rat) < shr z (k+1)) :
  cw zoo [aD z,I p,I w] []=some (zlP (ofR (Qs (shr z) k ((p:Rat) / (w:Rat))))):=by
 have hl:=h.1.2.1
 have hs:=h.sum
 have ha:=h.at hk
 have hsh:=h.sh
 have cmp:∀ i,shr z i≤(p:Rat) / (w:Rat)↔(z.take i).sum*w≤p*z.sum:=fun i=>frac_le _ _ _ _ (by omega) hw
 have bnd:∀ i,0≤(z.take i).sum*w∧(z.take i).sum*w≤1099511627776:=fun i=>by
  have ht:=h.take i
  have m3:(z.take i).sum*w≤1048576*1048576:=Int.mul_le_mul (by omega) hw2 (by omega) (by omega)
  exact ⟨Int.mul_nonneg ht.1 (by omega),by omega⟩
 obtain ⟨m1,m2,m3,m4,m5,m6⟩:=qb h hk hw hw2 hp0 hp2
 have eg:z[k]?.getD 0=z[k]:=by rw [List.getElem?_eq_getElem hk]; rfl
 rw [eg] at m5 m6
 have fin:zkC ⟨z⟩ p w (k:Int)=some (zlP (ofR (Qs (shr z) k ((p:Rat) / (w:Rat))))):=by
  obtain ⟨f1,f2,f3⟩:=Qs_fit h hk hw hw2 hp0 hp2
  have hD:w*z[k]=(((w*z[k]).toNat:Nat):Int):=by omega
  have n1:=zqs (2*(k:Int) - 1) 2 (by omega) (by omega) (by omega) (by omega)
  have n2:=zqs (p*z.sum - (z.take k).sum*w) (w*z[k]) (by omega) (by omega) (by omega) (by omega)
  have v1:newR (2*(k:Int) - 1) 2=(ofR (mkRat (2*k - 1) 2),0):=(znp (N:=2*(k:Int) - 1) (D:=2) (by omega) (by omega) (by omega)).1
  have v2:=(znp (N:=p*z.sum - (z.take k).sum*w) (D:=(w*z[k]).toNat) (by omega) (by omega) (by omega)).1
  rw [← hD] at v2
  rw [v1] at n1
  rw [v2] at n2
  have ad:=zoP _ _ f2 f3
  rw [← Qs_frac h hk p w hw,zbI f1] at ad
  have e2:w64 (w64 (2*(k:Int)) - 1)=2*k - 1:=by rw [w64_id (n:=2*(k:Int)) (by omega) (by omega),w64_id (by omega) (by omega)]
  have bl:=zk3 h.1 (k:Int)
  rw [Int.toNat_natCast] at bl
  refine zyg _ _ _ _ ?_
  dsimp only
  rw [e2,n1,zgk,zk9 h.1,zdy,bl,zdv,zac (by omega),Int.toNat_natCast,elemI hk,w64_id (n:=p*z.sum) (by omega) (by omega),w64_id (n:=(z.take k).sum*w) (by omega) (by omega),w64_id (n:=p*z.sum - (z.take k).sum*w) (by omega) (by omega),Int.mul_comm z[k] w,w64_id (n:=w*z[k]) (by omega) (by omega),n2,zgk,ad,zes]
  rfl
 have key:∀ (m i:Nat),i+m=k→zom ⟨z⟩ p w (i:Int)=some (zlP (ofR (Qs (shr z) k ((p:Rat) / (w:Rat))))):=by
  intro m
  induction m with
  | zero =>
    intro i hi
    have hik:i=k:=by omega
    subst hik
    have e:w64 ((i:Int)+1)=((i+1:Nat):Int):=by rw [w64_id (by omega) (by omega)]; omega
    have bl:=zk3 h.1 ((i+1:Nat):Int)
    rw [Int.toNat_natCast] at bl
    have b1:=bnd (i+1)
    refine zuF _ _ _ _ ?_
    dsimp only
    rw [e,lenI,zad]
    by_cases hlast:i+1=z.length
    · rw [if_neg (by omega)]
      exact fin
    · have hlt:(p:Rat) / (w:Rat) < shr z (i+1):=by
       rcases h2 with h2 | h2
       · exact absurd h2 hlast
       · exact h2
      have hn:¬ (z.take (i+1)).sum*w≤p*z.sum:=fun hc=>by have:=(cmp (i+1)).2 hc; grind
      rw [if_pos (by omega),bl,zdv,zk9 h.1,zdy,w64_id (n:=(z.take (i+1)).sum*w) (by omega) (by omega),w64_id (n:=p*z.sum) (by omega) (by omega),zad,if_neg hn]
      exact fin
  | succ m ih =>
    intro i hi
    have e:w64 ((i:Int)+1)=((i+1:Nat):Int):=by rw [w64_id (by omega) (by omega)]; omega
    have bl:=zk3 h.1 ((i+1:Nat):Int)
    rw [Int.toNat_natCast] at bl
    have b1:=bnd (i+1)
    have hm:=sh_mono hsh m (i+1) (by omega)
    rw [show i+1+m=k by omega] at hm
    have hle:(z.take (i+1)).sum*w≤p*z.sum:=(cmp (i+1)).1 (by grind)
    refine zuF _ _ _ _ ?_
    dsimp only
    rw [e,lenI,zad,if_pos (by omega),bl,zdv,zk9 h.1,zdy,w64_id (n:=(z.take (i+1)).sum*w) (by omega) (by omega),w64_id (n:=p*z.sum) (by omega) (by omega),zad,if_pos hle]
    exact ih (i+1) (by omega)
 exact e_ref34_at _ _ _ (key k 0 (by omega))
theorem c_at {z:List Int} (h:FD z) {k:Nat} (hk:k < z.length) (p w:Int) (hw:0 < w) (hw2:w≤1048576) (hp0:0≤p) (hp2:p≤1048576) (h1:shr z k≤(p:Rat) / (w:Rat)) (h2:(p:Rat) / (w:Rat)≤shr z (k+1)) :
  cw zoo [aD z,I p,I w] []=some (zlP (ofR (Qs (shr z) k ((p:Rat) / (w:Rat))))):=by
 have hsh:=h.sh
 by_cases he:(p:Rat) / (w:Rat) < shr z (k+1)
 · exact c_at0 h hk p w hw hw2 hp0 hp2 h1 (.inr he)
 · have heq:(p:Rat) / (w:Rat)=shr z (k+1):=by grind
   by_cases hl:k+1=z.length
   · exact c_at0 h hk p w hw hw2 hp0 hp2 h1 (.inl hl)
   · have:=c_at0 h (k:=k+1) (by omega) p w hw hw2 hp0 hp2 (by grind) (by
      by_cases hl2:k+1+1=z.length
      · exact .inl hl2
      · right; have:=hsh.up (k+1) (by omega); grind)
     rw [this,heq,zsQ (hsh.up k hk)]
theorem ofP_inj {a b:Pt} (e:ofP a=ofP b):a=b:=by
 have e3:ofR a.1=ofR b.1:=congrArg GPoint.X e
 have e4:ofR a.2=ofR b.2:=congrArg GPoint.Y e
 exact Prod.ext (zvq e3) (zvq e4)
def addP (l:List Pt) (p:Pt):List Pt:=if l.getLast?=some p then l else l++[p]
theorem c_addP (l:List Pt) (p:Pt) (hl:l.length≤100000):cw zj7 [.row 950 4 0 (List.length (ptsE l)),.agg (zag (ofP p))] [(950,⟨4,zaC,ptsE l,false⟩)]=some (zke ((addP l p).map ofP)):=by
 have app:zjF (l.map ofP) (ofP p)=some (zke ((l++[p]).map ofP)):=by
  refine zwE _ _ ?_
  rw [zac rfl,zac (by rw [lenP]; omega),zac rfl,zac rfl]
  have:ptsE l++[zag (ofP p)]=ptsE (l++[p]):=by simp only [ptsE,List.map_append,List.map_cons,List.map_nil]
  rw [this]
  rfl
 refine zCJ (l.map ofP) (ofP p) ?_
 unfold addP
 rw [lenP,zad]
 by_cases h0:0 < (l.length:Int)
 · have hne:l≠[]:=fun e=>by rw [e] at h0; simp at h0
   have ew:w64 (((l.length:Nat):Int) - 1)=((l.length - 1:Nat):Int):=by rw [w64_id (by omega) (by omega)]; omega
   have hz:l[l.length - 1]?=some (l.getLast hne):=by rw [← List.getLast?_eq_getElem?,List.getLast?_eq_some_getLast hne]
   rw [if_pos h0,ew,zac (by omega),zac (by omega),Nat.zero_add,Int.toNat_natCast,elemP hz,eqGP,List.getLast?_eq_some_getLast hne]
   by_cases he:l.getLast hne=p
   · rw [he,zav rfl,zaG,if_pos rfl,zac rfl,zac rfl]
     rfl
   · rw [zaF (fun h=>he (ofP_inj h)),zat,if_neg (fun h=>he (by injection h))]
     exact app
 · have hnil:l=[]:=List.length_eq_zero_iff.1 (by omega)
   rw [if_neg h0,if_neg (by rw [hnil]; simp)]
   exact app
section
variable {x y:List Int}
noncomputable abbrev rR (P:List Pt):Option (AV×Mem):=some (zeO (nfR P))
theorem k_R1011 (hx:FD x) (hy:FD y) {i j:Nat} (hi:i≤x.length) (hj:j < y.length) (P:Option (AV×Mem)) (F:List Pt) (hF:F.length≤10000) (J:Int) (h1:shr y j≤shr x i) (h2:shr x i≤shr y (j+1)) {r:AV×Mem}
  (K:zbN ⟨x⟩ ⟨y⟩ x.sum y.sum (ptsE (addP F ((i:Rat) - 1 / 2,Qs (shr y) j (shr x i)))) ((i+1:Nat):Int) J=some r) :
  zeg ⟨x⟩ ⟨y⟩ x.sum y.sum (ptsE F) (i:Int) J=some r:=by
 have lx:=hx.1.2.1
 have ux:=hx.sum
 have tx:=hx.take i
 have e2:w64 (w64 (2*(i:Int)) - 1)=2*i - 1:=by rw [w64_id (n:=2*(i:Int)) (by omega) (by omega),w64_id (by omega) (by omega)]
 have ei:w64 ((i:Int)+1)=((i+1:Nat):Int):=by rw [w64_id (by omega) (by omega)]; omega
 have n1:=zqs (2*(i:Int) - 1) 2 (by omega) (by omega) (by omega) (by omega)
 have v1:newR (2*(i:Int) - 1) 2=(ofR (mkRat (2*i - 1) 2),0):=(znp (N:=2*(i:Int) - 1) (D:=2) (by omega) (by omega) (by omega)).1
 rw [v1,half_of] at n1
 have bl:=zk3 hx.1 (i:Int)
 rw [Int.toNat_natCast] at bl
 have at1:=c_at hy hj (x.take i).sum x.sum (by omega) (by omega) (by omega) (by omega) h1 h2
 refine zrl _ _ _ _ _ _ _ ?_
 rw [e2,n1,zgk,bl,zdv,at1,zsG,zac rfl]
 have ad:=c_addP F ((i:Rat) - 1 / 2,Qs (shr y) j (shr x i)) (by omega)
 have ad':cw zj7 [.row 950 4 0 (List.length (ptsE F)),.agg (zag ⟨⟨(ofR ((i:Rat) - 1 / 2)).Num,(ofR ((i:Rat) - 1 / 2)).Den⟩,⟨(ofR (Qs (shr y) j (((x.take i).sum:Rat) / (x.sum:Rat)))).Num,(ofR (Qs (shr y) j (((x.take i).sum:Rat) / (x.sum:Rat)))).Den⟩⟩)] [(950,⟨4,zaC,ptsE F,false⟩)]=some (zke ((addP F ((i:Rat) - 1 / 2,Qs (shr y) j (shr x i))).map ofP)):=ad
 dsimp only
 rw [ad',zrq,zac rfl,ei]
 exact K
theorem k_R1014 (hx:FD x) (hy:FD y) {i j:Nat} (hi:i < x.length) (hj:j≤y.length) (F:List Pt) (hF:F.length≤10000) (J:Int) (h1:shr x i≤shr y j) (h2:shr y j≤shr x (i+1)) {r:AV×Mem}
  (K:zbN ⟨x⟩ ⟨y⟩ x.sum y.sum (ptsE (addP F (Qs (shr x) i (shr y j),(j:Rat) - 1 / 2))) J ((j+1:Nat):Int)=some r) :
  zef ⟨x⟩ ⟨y⟩ x.sum y.sum (ptsE F) J (j:Int)=some r:=by
 have ly:=hy.1.2.1
 have uy:=hy.sum
 have ty:=hy.take j
 have e2:w64 (w64 (2*(j:Int)) - 1)=2*j - 1:=by rw [w64_id (n:=2*(j:Int)) (by omega) (by omega),w64_id (by omega) (by omega)]
 have ej:w64 ((j:Int)+1)=((j+1:Nat):Int):=by rw [w64_id (by omega) (by omega)]; omega
 have n1:=zqs (2*(j:Int) - 1) 2 (by omega) (by omega) (by omega) (by omega)
 have v1:newR (2*(j:Int) - 1) 2=(ofR (mkRat (2*j - 1) 2),0):=(znp (N:=2*(j:Int) - 1) (D:=2) (by omega) (by omega) (by omega)).1
 rw [v1,half_of] at n1
 have bl:=zk3 hy.1 (j:Int)
 rw [Int.toNat_natCast] at bl
 have at1:=c_at hx hi (y.take j).sum y.sum (by omega) (by omega) (by omega) (by omega) h1 h2
 refine zro _ _ _ _ _ _ _ ?_
 rw [e2,n1,zgk,bl,zdv,at1,zsG,zac rfl]
 have ad:=c_addP F (Qs (shr x) i (shr y j),(j:Rat) - 1 / 2) (by omega)
 have ad':cw zj7 [.row 950 4 0 (List.length (ptsE F)),.agg (zag ⟨⟨(ofR (Qs (shr x) i (((y.take j).sum:Rat) / (y.sum:Rat)))).Num,(ofR (Qs (shr x) i (((y.take j).sum:Rat) / (y.sum:Rat)))).Den⟩,⟨(ofR ((j:Rat) - 1 / 2)).Num,(ofR ((j:Rat) - 1 / 2)).Den⟩⟩)] [(950,⟨4,zaC,ptsE F,false⟩)]=some (zke ((addP F (Qs (shr x) i (shr y j),(j:Rat) - 1 / 2)).map ofP)):=ad
 dsimp only
 rw [ad',zrq,zac rfl,ej]
 exact K
theorem zsJ (hx:FD x) (hy:FD y) {i j:Nat} (hij:i≤x.length∨j≤y.length) (hi2:i≤x.length+1) (hj2:j≤y.length+1) (F:List Pt) {r:AV×Mem}
  (K1:(y.length < j∨(i≤x.length∧shr x i≤shr y j))→zeg ⟨x⟩ ⟨y⟩ x.sum y.sum (ptsE F) (i:Int) (j:Int)=some r)
  (K2:¬ (y.length < j∨(i≤x.length∧shr x i≤shr y j))→zef ⟨x⟩ ⟨y⟩ x.sum y.sum (ptsE F) (i:Int) (j:Int)=some r) :
  zbN ⟨x⟩ ⟨y⟩ x.sum y.sum (ptsE F) (i:Int) (j:Int)=some r:=by
 have lx:=hx.1.2.1
 have ly:=hy.1.2.1
 have ux:=hx.sum
 have uy:=hy.sum
 have tx:=hx.take i
 have ty:=hy.take j
 have blx:=zk3 hx.1 (i:Int)
 have bly:=zk3 hy.1 (j:Int)
 rw [Int.toNat_natCast] at blx bly
 have m1:(x.take i).sum*y.sum≤1048576*1048576:=Int.mul_le_mul (by omega) uy.2 (by omega) (by omega)
 have m2:0≤(x.take i).sum*y.sum:=Int.mul_nonneg tx.1 (by omega)
 have m3:(y.take j).sum*x.sum≤1048576*1048576:=Int.mul_le_mul (by omega) ux.2 (by omega) (by omega)
 have m4:0≤(y.take j).sum*x.sum:=Int.mul_nonneg ty.1 (by omega)
 have hc:=le_shr hx hy i j
 have body:zfE ⟨x⟩ ⟨y⟩ x.sum y.sum (ptsE F) (i:Int) (j:Int)=some r:=by
  refine zrp _ _ _ _ _ _ _ ?_
  rw [blx,zdv,bly,zdv,lenI,lenI,zad]
  by_cases c1:(y.length:Int) < (j:Int)
  · rw [if_pos c1]
    exact K1 (.inl (by omega))
  · rw [if_neg c1,zad]
    by_cases c2:(i:Int)≤(x.length:Int)
    · rw [if_pos c2,w64_id (n:=(x.take i).sum*y.sum) (by omega) (by omega),w64_id (n:=(y.take j).sum*x.sum) (by omega) (by omega),zad]
      by_cases c3:(x.take i).sum*y.sum≤(y.take j).sum*x.sum
      · rw [if_pos c3]
        exact K1 (.inr ⟨by omega,hc.2 c3⟩)
      · rw [if_neg c3]
        refine K2 (fun h=>?_)
        rcases h with h | ⟨_,h⟩
        · omega
        · exact c3 (hc.1 h)
    · rw [if_neg c2]
      refine K2 (fun h=>?_)
      rcases h with h | ⟨h,_⟩ <;> omega
 refine zof _ _ _ _ _ _ _ ?_
 dsimp only
 rw [lenI,lenI,zad]
 by_cases c:(i:Int)≤(x.length:Int)
 · rw [if_pos c]; exact body
 · rw [if_neg c,zad,if_pos (by omega)]; exact body
theorem addP_new {F:List Pt} {q p:Pt} (h:F.getLast?=some q) (hlt:q.1 < p.1):addP F p=F++[p]:=by
 unfold addP
 rw [h,if_neg (fun e=>by injection e with e; rw [e] at hlt; grind)]
theorem zyQ {F:List Pt} {p:Pt} (h:F.getLast?=some p):addP F p=F:=by
 unfold addP
 rw [h,if_pos rfl]
theorem k_RP (hx:FD x) (hy:FD y) (P:List Pt) (hP:PcH P) :
  ∀ (k i j:Nat) (s:Rat) (F:List Pt),At (shr x) (shr y) x.length y.length i j s→(x.length - i)+(y.length - j)≤k→F.length≤1000+i+j→F.getLast?=some (Qs (shr x) i s,Qs (shr y) j s)→P=F++pw (shr x) (shr y) x.length y.length k i j →
    zbN ⟨x⟩ ⟨y⟩ x.sum y.sum (ptsE F) ((i+1:Nat):Int) ((j+1:Nat):Int)=rR P:=by
 have sx:=hx.sh
 have sy:=hy.sh
 have lx:=hx.1.2.1
 have ly:=hy.1.2.1
 have stop:∀ (i j:Nat) (F:List Pt),P=F→x.length≤i→y.length≤j→zbN ⟨x⟩ ⟨y⟩ x.sum y.sum (ptsE F) ((i+1:Nat):Int) ((j+1:Nat):Int)=rR P:=fun i j F e hi hj=>by
  subst e
  have ho:cw zs6 [.sl 4 (ptsE P)] []=some (ztf (nfR P)):=by
   refine e_ref33_Of _ ?_
   rw [zxm P hP.asc hP.two hP.len hP.fit,zpi]; rfl
  refine zof _ _ _ _ _ _ _ ?_
  dsimp only
  rw [lenI,lenI,zad,if_neg (by omega),zad,if_neg (by omega),zac (by omega),List.take_length,ho,zyn,zac (by omega),zac (by omega)]
  rfl
 intro k
 induction k with
 | zero =>
   intro i j s F h hk hF hlast hPe
   have e:P=F:=by rw [hPe]; simp [pw]
   exact stop i j F e (by omega) (by omega)
 | succ k ih =>
   intro i j s F h hk hF hlast hPe
   have him:=h.im
   have hjm:=h.jm
   by_cases hi:i < x.length
   · have hj:j < y.length:=(h.both sx sy).1 hi
     obtain ⟨h1,h2,h3,h4,h5⟩:=h.next sx sy hi hj
     have hsame:=Qs_same h sx sy hi hj
     have hless:=zxr (a:=shr x) (b:=shr y) i j
     have him':=h1.im
     have hjm':=h1.jm
     rw [zsB k hi hj] at hPe
     have hai:=h.ai
     have hbj:=h.bj
     have han:=h.an hi
     have hbm:=h.bm hj
     have u1:=sx.up i hi
     have u2:=sy.up j hj
     have hrec:=ih (ni (shr x) (shr y) i j) (nj (shr x) (shr y) i j) (nx (shr x) (shr y) i j) (F++[(Qs (shr x) i (nx (shr x) (shr y) i j),Qs (shr y) j (nx (shr x) (shr y) i j))]) h1 (by omega) (by simp; omega) (by rw [List.getLast?_append]; simp [hsame.1,hsame.2]) (by rw [hPe]; simp)
     have hup:=Qs_up u1 h2
     rcases Decidable.em (shr y (j+1) < shr x (i+1)) with hc | hc
     ·
      have enx:nx (shr x) (shr y) i j=shr y (j+1):=by unfold nx; rw [if_pos hc]
      have eni:ni (shr x) (shr y) i j=i:=by unfold ni; rw [if_neg (by grind)]
      have enj:nj (shr x) (shr y) i j=j+1:=by unfold nj; rw [if_pos (by grind)]
      rw [enx,eni,enj] at hrec
      rw [enx] at hup
      refine zsJ hx hy (.inl (by omega)) (by omega) (by omega) F (fun hh=>?_) (fun _=>?_)
      · rcases hh with hh | ⟨_,hh⟩
        · omega
        · grind
      · refine k_R1014 hx hy hi (by omega) F (by omega) _ (by grind) (by grind) ?_
        rw [addP_new hlast hup]
        have e5:Qs (shr y) j (shr y (j+1))=((j+1:Nat):Rat) - 1 / 2:=Qs_1 u2
        rw [e5] at hrec
        exact hrec
     · have enx:nx (shr x) (shr y) i j=shr x (i+1):=by unfold nx; rw [if_neg hc]
       have eni:ni (shr x) (shr y) i j=i+1:=by unfold ni; rw [if_pos (by grind)]
       rw [enx,eni] at hrec
       rw [enx] at hup
       have e5:Qs (shr x) i (shr x (i+1))=((i+1:Nat):Rat) - 1 / 2:=Qs_1 u1
       refine zsJ hx hy (.inl (by omega)) (by omega) (by omega) F (fun _=>?_) (fun hh=>absurd (.inr ⟨by omega,by grind⟩) hh)
       refine k_R1011 hx hy (by omega) hj none F (by omega) _ (by grind) (by grind) ?_
       rw [← e5,addP_new hlast hup]
       by_cases he:shr x (i+1)=shr y (j+1)
       ·
        have enj:nj (shr x) (shr y) i j=j+1:=by unfold nj; rw [if_pos (by grind)]
        rw [enj] at hrec
        have hjx:¬ (y.length < j+1∨(i+1+1≤x.length∧shr x (i+1+1)≤shr y (j+1))):=fun hh=>by
         rcases hh with hh | ⟨h6,hh⟩
         · omega
         · have:=sx.up (i+1) (by omega); grind
        refine zsJ hx hy (.inr (by omega)) (by omega) (by omega) _ (fun hh=>absurd hh hjx) (fun _=>?_)
        refine k_R1014 hx hy hi (by omega) _ (by simp; omega) _ (by grind) (by grind) ?_
        have e6:Qs (shr y) j (shr y (j+1))=((j+1:Nat):Rat) - 1 / 2:=Qs_1 u2
        rw [← he,← e6,← he,zyQ (by rw [List.getLast?_append]; simp)]
        exact hrec
       · have enj:nj (shr x) (shr y) i j=j:=by unfold nj; rw [if_neg (by grind)]
         rw [enj] at hrec
         exact hrec
   · have hj:¬ j < y.length:=fun hj=>hi ((h.both sx sy).2 hj)
     have e:P=F:=by
      rw [hPe]
      have:pw (shr x) (shr y) x.length y.length (k+1) i j=[]:=by unfold pw; rw [if_neg (fun h'=>hi h'.1)]
      rw [this,List.append_nil]
     exact stop i j F e (by omega) (by omega)
end
theorem zzW {x y:List Int} (hx:FD x) (hy:FD y):cw zf4 [aD x,aD y] []=some (zeO (nfR (pcP x y))):=by
 have lx:=hx.1.2.1
 have ly:=hy.1.2.1
 have px:=hx.1.1
 have py:=hy.1.1
 have sx:=hx.sh
 have sy:=hy.sh
 have n0:∀ {z:List Int},FD z→¬ (0:Int)∈z:=fun h hc=>by have:=h.2 0 hc; omega
 have hl:=pcP_len hx hy
 have key:=k_RP hx hy (pcP x y) ⟨pcP_asc hx hy,hl.1,by omega,pcP_fit hx hy⟩ (x.length+y.length) 0 0 0 [(-1 / 2,-1 / 2)] (at0 sx sy) (by omega) (by simp) (by rw [Qs00 sx,Qs00 sy]; rfl) rfl
 have zx:=sx.zero
 have zy:=sy.zero
 have ux:=sx.up 0 px
 have uy:=sy.up 0 py
 have e0:((0:Nat):Rat) - 1 / 2=-1 / 2:=by
  have:((0:Nat):Rat)=0:=rfl
  rw [this]; grind
 have start:zbN ⟨x⟩ ⟨y⟩ x.sum y.sum (ptsE []) ((0:Nat):Int) ((0:Nat):Int)=some (zeO (nfR (pcP x y))):=by
  refine zsJ hx hy (.inl (by omega)) (by omega) (by omega) [] (fun _=>?_) (fun hh=>absurd (.inr ⟨by omega,by rw [zx,zy]; exact Rat.le_refl⟩) hh)
  refine k_R1011 hx hy (by omega) py none [] (by simp) _ (by rw [zx,zy]; exact Rat.le_refl) (by rw [zx,← zy]; grind) ?_
  have a1:addP [] (((0:Nat):Rat) - 1 / 2,Qs (shr y) 0 (shr x 0))=[(-1 / 2,-1 / 2)]:=by
   rw [zx,Qs00 sy,e0]; rfl
  rw [a1]
  refine zsJ hx hy (.inl (by omega)) (by omega) (by omega) _ (fun hh=>?_) (fun _=>?_)
  · rcases hh with hh | ⟨_,hh⟩
    · omega
    · grind
  · refine k_R1014 hx hy px (by omega) _ (by simp) _ (by rw [zx,zy]; exact Rat.le_refl) (by rw [zy,← zx]; grind) ?_
    rw [zy,Qs00 sx,e0,zyQ (by rfl)]
    exact key
 refine zf5 _ _ ?_
 rw [za8,zaB,zav hx.1,brn_nt,za8,zaB,zav hy.1,brn_nt,c_full x (by omega),zhf,zav (n0 hx),brn_nt,c_full y (by omega),zhf,zav (n0 hy),brn_nt,zk9 hx.1,zdy,zk9 hy.1,zdy]
 exact start
end Go.Proofs.YtbhkcgaanaelfaaGreat
namespace Go.Proofs.YtbhkcgaanaelfaaGreat
open Go.Ab Go.Pure
set_option linter.unusedSimpArgs false
set_option linter.unusedVariables false
set_option maxRecDepth 20000
theorem both_LineN (s t:GRatio):∃ v:GCurve×Int,cw ziM [.agg (zaa s),.agg (zaa t)] []=some (zis v)∧cw zqJ [.agg (zaa s),.agg (zaa t)] []=some (zq2 v)∧v.1.Points.length≤2:=by
 by_cases h1:VR s
 · by_cases h2:VR t
   · by_cases h3:s.Num≤0
     · refine ⟨(⟨[]⟩,2),zfs _ _ ?_,zk4 _ _ ?_,by simp⟩
       · rw [zek,za5,decide_eq_true h1,brn_nt,zek,za5,decide_eq_true h2,brn_nt,zad,if_pos h3]; rfl
       · rw [zc6,zaL,decide_eq_true h1,brn_nt,zc6,zaL,decide_eq_true h2,brn_nt,zad,if_pos h3]; rfl
     · obtain ⟨a,ha,rfl⟩:=VR_fit h1
       obtain ⟨b,hb,rfl⟩:=VR_fit h2
       have A:=zsN a b ha hb
       have R:=zoP b a hb ha
       rw [Rat.add_comm b a] at R
       by_cases hf:Fit (a+b)
       · refine ⟨(⟨[⟨⟨0,1⟩,ofR b⟩,⟨⟨1,1⟩,ofR (a+b)⟩]⟩,0),zfs _ _ ?_,zk4 _ _ ?_,by simp⟩
         · rw [zek,za5,decide_eq_true h1,brn_nt,zek,za5,decide_eq_true h2,brn_nt,zad,if_neg h3,A,ze7,zbI hf,brn_f (by rfl),zlk,zbj,zlk,zbj]; rfl
         · rw [zc6,zaL,decide_eq_true h1,brn_nt,zc6,zaL,decide_eq_true h2,brn_nt,zad,if_neg h3,R,zes,zbI hf]; rfl
       · refine ⟨(⟨[]⟩,6),zfs _ _ ?_,zk4 _ _ ?_,by simp⟩
         · rw [zek,za5,decide_eq_true h1,brn_nt,zek,za5,decide_eq_true h2,brn_nt,zad,if_neg h3,A,ze7,zd8 hf]; rfl
         · rw [zc6,zaL,decide_eq_true h1,brn_nt,zc6,zaL,decide_eq_true h2,brn_nt,zad,if_neg h3,R,zes,zd8 hf]; rfl
   · refine ⟨(⟨[]⟩,1),zfs _ _ ?_,zk4 _ _ ?_,by simp⟩
     · rw [zek,za5,decide_eq_true h1,brn_nt,zek,za5,decide_eq_false h2]; rfl
     · rw [zc6,zaL,decide_eq_true h1,brn_nt,zc6,zaL,decide_eq_false h2]; rfl
 · refine ⟨(⟨[]⟩,1),zfs _ _ ?_,zk4 _ _ ?_,by simp⟩
   · rw [zek,za5,decide_eq_false h1]; rfl
   · rw [zc6,zaL,decide_eq_false h1]; rfl
theorem zuJ {s a b:Rat} (hs:Fit s) (ha:Fit a) (hb:Fit b):∃ v:GCurve×Int,cw zc7 [aR s,aR a,aR b] []=some (zhT v)∧cw zfq [aR s,aR a,aR b] []=some (znJ v)∧v.1.Points.length≤2:=by
 by_cases h1:Fit (s*a)
 · by_cases h2:Fit (b - s*a)
   · obtain ⟨v,p,r,hl⟩:=both_LineN (ofR s) (ofR (b - s*a))
     refine ⟨v,zh9 _ _ _ ?_,zn8 _ _ _ ?_,hl⟩
     · rw [zqW _ _ hs ha,zer,zbI h1,brn_f (by rfl),c_SubF _ _ hb h1,zhS,zbI h2,brn_f (by rfl),p,znE]; rfl
     · rw [zsk _ _ hs ha,zhZ,zbI h1,brn_f (by rfl),zlV _ _ hb h1,zdF,zbI h2,brn_f (by rfl),r,zwM]; rfl
   · refine ⟨(⟨[]⟩,6),zh9 _ _ _ ?_,zn8 _ _ _ ?_,by simp⟩
     · rw [zqW _ _ hs ha,zer,zbI h1,brn_f (by rfl),c_SubF _ _ hb h1,zhS,zd8 h2]; rfl
     · rw [zsk _ _ hs ha,zhZ,zbI h1,brn_f (by rfl),zlV _ _ hb h1,zdF,zd8 h2]; rfl
 · refine ⟨(⟨[]⟩,6),zh9 _ _ _ ?_,zn8 _ _ _ ?_,by simp⟩
   · rw [zqW _ _ hs ha,zer,zd8 h1]; rfl
   · rw [zsk _ _ hs ha,zhZ,zd8 h1]; rfl
def badD (x y:List Int):Prop:=¬ (VD x∧VD y)∨x.sum=0∨y.sum=0
noncomputable def badE (x y:List Int):Int:=@ite Int (VD x∧VD y) (Classical.propDecidable _) 10 1
theorem c_bothM (x y:List Int):cw zfj [aD x,aD y,.fn zcU []] []=some (zkz (@ite (GRatio×GRatio×Int) (badD x y) (Classical.propDecidable _) (⟨0,0⟩,⟨0,0⟩,badE x y) (ofR (mn x),ofR (mn y),0))):=by
 refine zsX _ _ ?_
 rw [zdD,zaK]
 by_cases hx:VD x
 · rw [zav hx,brn_nt,zdD,zaK]
   by_cases hy:VD y
   · have hE:badE x y=10:=if_pos ⟨hx,hy⟩
     rw [zav hy,brn_nt,zqX hx,zd2]
     by_cases x0:x.sum=0
     · rw [x0,brn_t (by rfl),if_pos (.inr (.inl x0)),hE]; rfl
     · rw [brn_f (beq_false_of_ne x0),zqX hy,zd2]
       by_cases y0:y.sum=0
       · rw [y0,brn_t (by rfl),if_pos (.inr (.inr y0)),hE]; rfl
       · rw [brn_f (beq_false_of_ne y0),(zjh hx x0).1,zl5,brn_f (by rfl),(zjh hy y0).1,zl5,brn_f (by rfl),if_neg (fun h=>by
          rcases h with h | h | h
          · exact h ⟨hx,hy⟩
          · exact x0 h
          · exact y0 h)]; rfl
   · have hE:badE x y=1:=if_neg (fun h=>hy h.2)
     rw [zaF hy,if_pos (.inl (fun h=>hy h.2)),hE]; rfl
 · have hE:badE x y=1:=if_neg (fun h=>hx h.1)
   rw [zaF hx,if_pos (.inl (fun h=>hx h.1)),hE]; rfl
theorem c_bothD (x y:List Int):cw zfj [aD x,aD y,.fn zcn []] []=some (zkz (@ite (GRatio×GRatio×Int) (badD x y) (Classical.propDecidable _) (⟨0,0⟩,⟨0,0⟩,badE x y) (ofR (dvn x),ofR (dvn y),0))):=by
 refine zqc _ _ ?_
 rw [zdD,zaK]
 by_cases hx:VD x
 · rw [zav hx,brn_nt,zdD,zaK]
   by_cases hy:VD y
   · have hE:badE x y=10:=if_pos ⟨hx,hy⟩
     rw [zav hy,brn_nt,zqX hx,zd2]
     by_cases x0:x.sum=0
     · rw [x0,brn_t (by rfl),if_pos (.inr (.inl x0)),hE]; rfl
     · rw [brn_f (beq_false_of_ne x0),zqX hy,zd2]
       by_cases y0:y.sum=0
       · rw [y0,brn_t (by rfl),if_pos (.inr (.inr y0)),hE]; rfl
       · rw [brn_f (beq_false_of_ne y0),(zrC hx x0).1,zi0,brn_f (by rfl),(zrC hy y0).1,zi0,brn_f (by rfl),if_neg (fun h=>by
          rcases h with h | h | h
          · exact h ⟨hx,hy⟩
          · exact x0 h
          · exact y0 h)]; rfl
   · have hE:badE x y=1:=if_neg (fun h=>hy h.2)
     rw [zaF hy,if_pos (.inl (fun h=>hy h.2)),hE]; rfl
 · have hE:badE x y=1:=if_neg (fun h=>hx h.1)
   rw [zaF hx,if_pos (.inl (fun h=>hx h.1)),hE]; rfl
theorem c_rMean0 {l:List Int} (h:VD l) (h0:l.sum=0):cw zez [aD l] []=some (zhm (⟨0,0⟩,10)):=by
 refine zvi _ ?_
 rw [zw3,zmb,if_pos h,if_pos h0]
 rfl
theorem rMeans {x y:List Int} (hx:VD x) (hy:VD y):∃ (a b:GRatio×Int),cw zez [aD x] []=some (zhm a)∧cw zez [aD y] []=some (zhm b)∧(x.sum=0→a.2=10)∧(y.sum=0→b.2=10)∧(x.sum≠0→a=(ofR (mn x),0))∧(y.sum≠0→b=(ofR (mn y),0)):=by
 have one:∀ {l:List Int},VD l→∃ a:GRatio×Int,cw zez [aD l] []=some (zhm a)∧(l.sum=0→a.2=10)∧(l.sum≠0→a=(ofR (mn l),0)):=fun {l} h=>by
  by_cases h0:l.sum=0
  · exact ⟨_,c_rMean0 h h0,fun _=>rfl,fun h1=>absurd h0 h1⟩
  · exact ⟨_,(zjh h h0).2.1,fun h1=>absurd h1 h0,fun _=>rfl⟩
 obtain ⟨a,a1,a2,a3⟩:=one hx
 obtain ⟨b,b1,b2,b3⟩:=one hy
 exact ⟨a,b,a1,b1,a2,b2,a3,b3⟩
theorem fit1:Fit (1:Rat):=by decide
theorem zxJ (x y:List Int):∃ v:GCurve×Int,cw ze6 [aD x,aD y] []=some (zkG v)∧cw zoa [aD x,aD y] []=some (zqx v)∧v.1.Points.length≤2:=by
 have B:=c_bothM x y
 by_cases hx:VD x
 · by_cases hy:VD y
   · obtain ⟨a,b,r1,r2,r3,r4,r5,r6⟩:=rMeans hx hy
     by_cases x0:x.sum=0
     · rw [if_pos (.inr (.inl x0)),show badE x y=10 from if_pos ⟨hx,hy⟩] at B
       refine ⟨(⟨[]⟩,10),zgg _ _ ?_,zlu _ _ ?_,by simp⟩
       · rw [B,zaY]; rfl
       · rw [za8,zaB,zav hx,brn_nt,za8,zaB,zav hy,brn_nt,r1,zbY,r2,zbY,r3 x0]; rfl
     · by_cases y0:y.sum=0
       · rw [if_pos (.inr (.inr y0)),show badE x y=10 from if_pos ⟨hx,hy⟩] at B
         refine ⟨(⟨[]⟩,10),zgg _ _ ?_,zlu _ _ ?_,by simp⟩
         · rw [B,zaY]; rfl
         · rw [za8,zaB,zav hx,brn_nt,za8,zaB,zav hy,brn_nt,r1,zbY,r2,zbY,r5 x0,r4 y0]; rfl
       · rw [if_neg (fun h=>by
          rcases h with h | h | h
          · exact h ⟨hx,hy⟩
          · exact x0 h
          · exact y0 h)] at B
         obtain ⟨v,p,r,hl⟩:=zuJ fit1 (zjh hx x0).2.2 (zjh hy y0).2.2
         refine ⟨v,zgg _ _ ?_,zlu _ _ ?_,hl⟩
         · rw [B,zaY,brn_f (by rfl)]
           show callD zc9 (cw zc7 [aR 1,aR (mn x),aR (mn y)] []) _=_
           rw [p,zio]; rfl
         · rw [za8,zaB,zav hx,brn_nt,za8,zaB,zav hy,brn_nt,r1,zbY,r2,zbY,r5 x0,r6 y0,brn_f (by rfl),brn_f (by rfl)]
           show callD zeq (cw zfq [aR 1,aR (mn x),aR (mn y)] []) _=_
           rw [r,zoH]; rfl
   · rw [if_pos (.inl (fun h=>hy h.2)),show badE x y=1 from if_neg (fun h=>hy h.2)] at B
     refine ⟨(⟨[]⟩,1),zgg _ _ ?_,zlu _ _ ?_,by simp⟩
     · rw [B,zaY]; rfl
     · rw [za8,zaB,zav hx,brn_nt,za8,zaB,zaF hy]; rfl
 · rw [if_pos (.inl (fun h=>hx h.1)),show badE x y=1 from if_neg (fun h=>hx h.1)] at B
   refine ⟨(⟨[]⟩,1),zgg _ _ ?_,zlu _ _ ?_,by simp⟩
   · rw [B,zaY]; rfl
   · rw [za8,zaB,zaF hx]; rfl
theorem zu2 (x y:List Int):∃ v:GCurve×Int,cw ziA [aD x,aD y] []=some (zmm v)∧cw zi2 [aD x,aD y] []=some (zoT v)∧v.1.Points.length≤2:=by
 have B:=c_bothM x y
 have D:=c_bothD x y
 by_cases hx:VD x
 · by_cases hy:VD y
   · obtain ⟨a,b,r1,r2,r3,r4,r5,r6⟩:=rMeans hx hy
     by_cases x0:x.sum=0
     · rw [if_pos (.inr (.inl x0)),show badE x y=10 from if_pos ⟨hx,hy⟩] at D
       refine ⟨(⟨[]⟩,10),zdt _ _ ?_,zi1 _ _ ?_,by simp⟩
       · rw [D,zaY]; rfl
       · rw [za8,zaB,zav hx,brn_nt,za8,zaB,zav hy,brn_nt,r1,zbY,r2,zbY,r3 x0]; rfl
     · by_cases y0:y.sum=0
       · rw [if_pos (.inr (.inr y0)),show badE x y=10 from if_pos ⟨hx,hy⟩] at D
         refine ⟨(⟨[]⟩,10),zdt _ _ ?_,zi1 _ _ ?_,by simp⟩
         · rw [D,zaY]; rfl
         · rw [za8,zaB,zav hx,brn_nt,za8,zaB,zav hy,brn_nt,r1,zbY,r2,zbY,r5 x0,r4 y0]; rfl
       · have hb:¬ badD x y:=fun h=>by
          rcases h with h | h | h
          · exact h ⟨hx,hy⟩
          · exact x0 h
          · exact y0 h
         rw [if_neg hb] at B D
         obtain ⟨_,rx,fx⟩:=zrC hx x0
         obtain ⟨_,ry,fy⟩:=zrC hy y0
         have rbeg:∀ y':AV×Mem,(brn ((ofR (dvn x)).Num == 0) (some (.tup [.agg (zak ⟨[]⟩),I 10],[]))
           (brn ((ofR (dvn y)).Num == 0) (some (.tup [.agg (zak ⟨[]⟩),I 10],[]))
            (callD zg2 (cw ziq [aR (dvn y),aR (dvn x)] []) fun (r6:GRatio×Int) =>
             brn (r6.snd != 0) (some (.tup [.agg (zak ⟨[]⟩),I r6.snd],[]))
             (callD zeq (cw zfq [.agg (zaa r6.fst),aR (mn x),aR (mn y)] []) fun (r7:GCurve×Int) =>
              some (.tup [.agg (zak r7.fst),I r7.snd],[])))))=some y'→cw zi2 [aD x,aD y] []=some y':=fun y' hy'=>by
          refine zi1 _ _ ?_
          rw [za8,zaB,zav hx,brn_nt,za8,zaB,zav hy,brn_nt,r1,zbY,r2,zbY,r5 x0,r6 y0,brn_f (by rfl),brn_f (by rfl),rx,znx,ry,znx,brn_f (by rfl),brn_f (by rfl)]
          exact hy'
         by_cases d1:(dvn x).num=0
         · refine ⟨(⟨[]⟩,10),zdt _ _ ?_,rbeg _ ?_,by simp⟩
           · rw [D,zaY,brn_f (by rfl)]
             show brn ((dvn x).num == 0) _ _=_
             rw [d1]; rfl
           · rw [oN,d1]; rfl
         · by_cases d2:(dvn y).num=0
           · refine ⟨(⟨[]⟩,10),zdt _ _ ?_,rbeg _ ?_,by simp⟩
             · rw [D,zaY,brn_f (by rfl)]
               show brn ((dvn x).num == 0) _ (brn ((dvn y).num == 0) _ _)=_
               rw [brn_f (beq_false_of_ne d1),d2]; rfl
             · rw [oN,oN,brn_f (beq_false_of_ne d1),d2]; rfl
           · have n1:dvn x≠0:=fun h=>d1 (by rw [h]; rfl)
             by_cases hf:Fit (dvn y / dvn x)
             · obtain ⟨v,p,r,hl⟩:=zuJ hf (zjh hx x0).2.2 (zjh hy y0).2.2
               refine ⟨v,zdt _ _ ?_,rbeg _ ?_,hl⟩
               · rw [D,zaY,brn_f (by rfl)]
                 show brn ((dvn x).num == 0) _ (brn ((dvn y).num == 0) _ _)=_
                 rw [brn_f (beq_false_of_ne d1),brn_f (beq_false_of_ne d2),B,zaY,brn_f (by rfl)]
                 show callD zic (cw zdn [aR (dvn y),aR (dvn x)] []) _=_
                 rw [c_DivF _ _ fy fx n1,zkO,zbI hf,brn_f (by rfl)]
                 show callD zc9 (cw zc7 [aR (dvn y / dvn x),aR (mn x),aR (mn y)] []) _=_
                 rw [p,zio]; rfl
               · rw [oN,oN,brn_f (beq_false_of_ne d1),brn_f (beq_false_of_ne d2),zvp _ _ fy fx n1,zkM,zbI hf,brn_f (by rfl)]
                 show callD zeq (cw zfq [aR (dvn y / dvn x),aR (mn x),aR (mn y)] []) _=_
                 rw [r,zoH]; rfl
             · refine ⟨(⟨[]⟩,6),zdt _ _ ?_,rbeg _ ?_,by simp⟩
               · rw [D,zaY,brn_f (by rfl)]
                 show brn ((dvn x).num == 0) _ (brn ((dvn y).num == 0) _ _)=_
                 rw [brn_f (beq_false_of_ne d1),brn_f (beq_false_of_ne d2),B,zaY,brn_f (by rfl)]
                 show callD zic (cw zdn [aR (dvn y),aR (dvn x)] []) _=_
                 rw [c_DivF _ _ fy fx n1,zkO,zd8 hf]; rfl
               · rw [oN,oN,brn_f (beq_false_of_ne d1),brn_f (beq_false_of_ne d2),zvp _ _ fy fx n1,zkM,zd8 hf]; rfl
   · rw [if_pos (.inl (fun h=>hy h.2)),show badE x y=1 from if_neg (fun h=>hy h.2)] at D
     refine ⟨(⟨[]⟩,1),zdt _ _ ?_,zi1 _ _ ?_,by simp⟩
     · rw [D,zaY]; rfl
     · rw [za8,zaB,zav hx,brn_nt,za8,zaB,zaF hy]; rfl
 · rw [if_pos (.inl (fun h=>hx h.1)),show badE x y=1 from if_neg (fun h=>hx h.1)] at D
   refine ⟨(⟨[]⟩,1),zdt _ _ ?_,zi1 _ _ ?_,by simp⟩
   · rw [D,zaY]; rfl
   · rw [za8,zaB,zaF hx]; rfl
theorem zqV (x y:List Int):∃ v:GCurve×Int,cw zc1 [aD x,aD y] []=some (zeY v)∧cw zf4 [aD x,aD y] []=some (zeO v)∧v.1.Points.length≤x.length+y.length+1:=by
 by_cases hx:VD x
 · have lx:=hx.2.1
   by_cases hy:VD y
   · have ly:=hy.2.1
     by_cases zx:(0:Int)∈x
     · refine ⟨(⟨[]⟩,10),zeS _ _ ?_,zf5 _ _ ?_,by simp⟩
       · rw [zdD,zaK,zav hx,brn_nt,zdD,zaK,zav hy,brn_nt,zmB x (by omega),zcT,zav zx]; rfl
       · rw [za8,zaB,zav hx,brn_nt,za8,zaB,zav hy,brn_nt,c_full x (by omega),zhf,zaF (fun h=>h zx)]; rfl
     · by_cases zy:(0:Int)∈y
       · refine ⟨(⟨[]⟩,10),zeS _ _ ?_,zf5 _ _ ?_,by simp⟩
         · rw [zdD,zaK,zav hx,brn_nt,zdD,zaK,zav hy,brn_nt,zmB x (by omega),zcT,zaF zx,brn_F,zmB y (by omega),zcT,zav zy]; rfl
         · rw [za8,zaB,zav hx,brn_nt,za8,zaB,zav hy,brn_nt,c_full x (by omega),zhf,zav zx,brn_nt,c_full y (by omega),zhf,zaF (fun h=>h zy)]; rfl
       · have fx:=fd_of hx zx
         have fy:=fd_of hy zy
         have hl:=pcP_len fx fy
         have:=nfR_len (pcP x y) hl.1
         exact ⟨nfR (pcP x y),zu8 fx fy,zzW fx fy,by omega⟩
   · refine ⟨(⟨[]⟩,1),zeS _ _ ?_,zf5 _ _ ?_,by simp⟩
     · rw [zdD,zaK,zav hx,brn_nt,zdD,zaK,zaF hy]; rfl
     · rw [za8,zaB,zav hx,brn_nt,za8,zaB,zaF hy]; rfl
 · refine ⟨(⟨[]⟩,1),zeS _ _ ?_,zf5 _ _ ?_,by simp⟩
   · rw [zdD,zaK,zaF hx]; rfl
   · rw [za8,zaB,zaF hx]; rfl
theorem zsd (k:Int) (x y:List Int):∃ v:GCurve×Int,cw zgA [I k,aD x,aD y] []=some (zmh v)∧cw ziN [I k,aD x,aD y] []=some (zoX v)∧v.1.Points.length≤x.length+y.length+2:=by
 by_cases k0:k=0
 · obtain ⟨v,p,r,hl⟩:=zxJ x y
   refine ⟨v,ziu _ _ _ ?_,zlM _ _ _ ?_,by omega⟩
   · rw [k0,brn_t (by rfl),p,zkj]; rfl
   · rw [k0,brn_t (by rfl),r,zqT]; rfl
 · by_cases k1:k=1
   · obtain ⟨v,p,r,hl⟩:=zu2 x y
     refine ⟨v,ziu _ _ _ ?_,zlM _ _ _ ?_,by omega⟩
     · rw [brn_f (beq_false_of_ne k0),k1,brn_t (by rfl),p,znq]; rfl
     · rw [brn_f (beq_false_of_ne k0),k1,brn_t (by rfl),r,zpk]; rfl
   · by_cases k2:k=2
     · obtain ⟨v,p,r,hl⟩:=zqV x y
       refine ⟨v,ziu _ _ _ ?_,zlM _ _ _ ?_,by omega⟩
       · rw [brn_f (beq_false_of_ne k0),brn_f (beq_false_of_ne k1),k2,brn_t (by rfl),p,zgW]; rfl
       · rw [brn_f (beq_false_of_ne k0),brn_f (beq_false_of_ne k1),k2,brn_t (by rfl),r,zmD]; rfl
     · refine ⟨(⟨[]⟩,2),ziu _ _ _ ?_,zlM _ _ _ ?_,by simp⟩
       · rw [brn_f (beq_false_of_ne k0),brn_f (beq_false_of_ne k1),brn_f (beq_false_of_ne k2)]; rfl
       · rw [brn_f (beq_false_of_ne k0),brn_f (beq_false_of_ne k1),brn_f (beq_false_of_ne k2)]; rfl
theorem both_Chain (k:Int) (x a b y:List Int) (hl:x.length+a.length+b.length+y.length < 96):∃ v:GCurve×Int,cw znf [aD x,aD a,aD b,aD y,I k] []=some (znd v)∧cw zpz [aD x,aD a,aD b,aD y,I k] []=some (zpF v)∧v.1.Points.length≤410:=by
 obtain ⟨u,p1,r1,l1⟩:=zsd k x a
 obtain ⟨w,p2,r2,l2⟩:=zsd k b y
 by_cases h1:u.2=0
 · by_cases h2:w.2=0
   · obtain ⟨v,p3,r3,l3⟩:=zAI u.1 w.1 (by omega)
     refine ⟨v,zm9 _ _ _ _ _ ?_,zpM _ _ _ _ _ ?_,l3⟩
     · rw [p1,zdL,h1,brn_f (by rfl),p2,zdL,h2,brn_f (by rfl),p3,zq8]; rfl
     · rw [r1,zeP,h1,brn_f (by rfl),r2,zeP,h2,brn_f (by rfl),r3,zuq]; rfl
   · refine ⟨(⟨[]⟩,w.2),zm9 _ _ _ _ _ ?_,zpM _ _ _ _ _ ?_,by simp⟩
     · rw [p1,zdL,h1,brn_f (by rfl),p2,zdL,brn_t (bne_iff_ne.2 h2)]; rfl
     · rw [r1,zeP,h1,brn_f (by rfl),r2,zeP,brn_t (bne_iff_ne.2 h2)]; rfl
 · refine ⟨(⟨[]⟩,u.2),zm9 _ _ _ _ _ ?_,zpM _ _ _ _ _ ?_,by simp⟩
   · rw [p1,zdL,brn_t (bne_iff_ne.2 h1)]; rfl
   · rw [r1,zeP,brn_t (bne_iff_ne.2 h1)]; rfl
end Go.Proofs.YtbhkcgaanaelfaaGreat
namespace Go.Proofs.YtbhkcgaanaelfaaGreat
open Go.Ab Go.Pure
set_option linter.unusedSimpArgs false
set_option linter.unusedVariables false
set_option maxRecDepth 20000
noncomputable abbrev isE (l:List Int):List (List AV):=List.map zai l
theorem set_next (L:List Int) (v:Int) (n:Nat):(L++List.replicate (n+1) 0).set L.length v=(L++[v])++List.replicate n 0:=by
 rw [List.set_append_right _ _ (Nat.le_refl _),Nat.sub_self,List.replicate_succ]
 simp
theorem k_tables (c:GCurve) (fr to:Int) (hf0:0≤fr) (hf:fr≤200):∀ (n:Nat) (L:List Int),L.length+n=fr.toNat+1→(∀ v∈L,0≤v∧v≤to) →
  ∃ v:List Int×Int,zh2 c fr to (isE (L++List.replicate n 0)) (L.length:Int)=some (zjD v)∧zky c fr to (isE L) (L.length:Int)=some (zm0 v)∧(v.2=0→v.1.length=fr.toNat+1∧∀ z∈v.1,0≤z∧z≤to)∧v.1.length≤201:=by
 have e1:w64 (fr+1)=fr+1:=w64_id (by omega) (by omega)
 intro n
 induction n with
 | zero =>
   intro L hL hv
   refine ⟨(L,0),zlh _ _ _ _ _ ?_,zou _ _ _ _ _ ?_,fun _=>⟨by show L.length=_; omega,hv⟩,by show L.length≤201; omega⟩
   · rw [e1,List.length_replicate,zad,if_neg (by omega),zac (by simp; omega),List.take_of_length_le (by simp; omega)]
     simp only [List.replicate_zero,List.append_nil]
     rfl
   · rw [zad,if_neg (by omega),zac (by omega),List.take_length]; rfl
 | succ n ih =>
   intro L hL hv
   obtain ⟨w,p,r,hw⟩:=zAT c (L.length:Int) to
   have ei:w64 ((L.length:Int)+1)=((L.length+1:Nat):Int):=by rw [w64_id (by omega) (by omega)]; omega
   by_cases h0:w.2=0
   · obtain ⟨v,k1,k2,k3,k4⟩:=ih (L++[w.1]) (by simp; omega) (fun z hz=>by
      rcases List.mem_append.1 hz with hz | hz
      · exact hv z hz
      · rw [List.mem_singleton.1 hz]; exact hw h0)
     have el:(L++[w.1]).length=L.length+1:=by simp
     rw [el] at k1 k2
     refine ⟨v,zlh _ _ _ _ _ ?_,zou _ _ _ _ _ ?_,k3,k4⟩
     · have hg:(L++List.replicate (n+1) 0)[L.length]?=some 0:=by
        rw [List.getElem?_append_right (Nat.le_refl _),Nat.sub_self]; rfl
       rw [e1,List.length_replicate,zad,if_pos (by omega),p,zlD,h0,brn_f (by rfl),zac (by omega),zac (by omega),Nat.zero_add,Int.toNat_natCast,zdY (D:=zaw) hg,ei]
       have es:List.set (isE (L++List.replicate (n+1) 0)) L.length (zai w.1)=isE ((L++[w.1])++List.replicate n 0):=by
        rw [← set_next,isE,isE,List.map_set]
       rw [es]
       exact k1
     · rw [zad,if_pos (by omega),r,zoE,h0,brn_f (by rfl),zac rfl,zac (by simp; omega),zac rfl,ei]
       have es:isE L++[zai w.1]=isE (L++[w.1]):=by simp only [isE,List.map_append,List.map_cons,List.map_nil]
       rw [es]
       exact k2
   · refine ⟨([],w.2),zlh _ _ _ _ _ ?_,zou _ _ _ _ _ ?_,fun h=>absurd h h0,by simp⟩
     · rw [e1,List.length_replicate,zad,if_pos (by omega),p,zlD,brn_t (bne_iff_ne.2 h0)]; rfl
     · rw [zad,if_pos (by omega),r,zoE,brn_t (bne_iff_ne.2 h0)]; rfl
theorem zpo (n:Int):cw zh5 [I n] []=some (zli (decide (0≤n) && decide (n≤200))):=by
 refine zu4 _ ?_
 rw [zad]
 by_cases h:0≤n
 · rw [if_pos h,decide_eq_true h,Bool.true_and]; rfl
 · rw [if_neg h,decide_eq_false h,Bool.false_and]; rfl
theorem zx1 (c:GCurve) (fr to:Int):∃ v:List Int×Int,cw zjA [.agg (zak c),I fr,I to] []=some (zjD v)∧cw zmL [.agg (zak c),I fr,I to] []=some (zm0 v)∧(v.2=0→0≤to∧to≤200∧v.1.length=fr.toNat+1∧∀ z∈v.1,0≤z∧z≤to)∧v.1.length≤201:=by
 by_cases h1:0≤fr∧fr≤200
 · by_cases h2:0≤to∧to≤200
   · obtain ⟨v,k1,k2,k3,k4⟩:=k_tables c fr to h1.1 h1.2 (fr.toNat+1) [] (by simp) (by simp)
     have e1:w64 (fr+1)=fr+1:=w64_id (by omega) (by omega)
     refine ⟨v,znm _ _ _ ?_,zpQ _ _ _ ?_,fun h=>⟨h2.1,h2.2,k3 h⟩,k4⟩
     · have ek:(fr+1).toNat=fr.toNat+1:=by omega
       rw [zpo,zeC,decide_eq_true h1.1,decide_eq_true h1.2,Bool.true_and,brn_nt,zpo,zeC,decide_eq_true h2.1,decide_eq_true h2.2,Bool.true_and,brn_nt,e1,zac rfl,zac (by omega),zac (by omega),ek]
       rw [List.nil_append,isE,List.map_replicate] at k1
       exact k1
     · rw [zad,if_neg (by omega),zad,if_neg (by omega),zad,if_neg (by omega),zad,if_neg (by omega)]
       exact k2
   · refine ⟨([],2),znm _ _ _ ?_,zpQ _ _ _ ?_,(fun h=>by cases h),by simp⟩
     · have:(decide (0≤to) && decide (to≤200))=false:=by rw [Bool.eq_false_iff]; intro h; simp at h; exact h2 h
       rw [zpo,zeC,decide_eq_true h1.1,decide_eq_true h1.2,Bool.true_and,brn_nt,zpo,zeC,this]; rfl
     · rw [zad,if_neg (by omega),zad,if_neg (by omega),zad]
       by_cases h3:to < 0
       · rw [if_pos h3]; rfl
       · rw [if_neg h3,zad,if_pos (by omega)]; rfl
 · refine ⟨([],2),znm _ _ _ ?_,zpQ _ _ _ ?_,(fun h=>by cases h),by simp⟩
   · have:(decide (0≤fr) && decide (fr≤200))=false:=by rw [Bool.eq_false_iff]; intro h; simp at h; exact h1 h
     rw [zpo,zeC,this]; rfl
   · rw [zad]
     by_cases h3:fr < 0
     · rw [if_pos h3]; rfl
     · rw [if_neg h3,zad,if_pos (by omega)]; rfl
theorem k_converts (l t:List Int) (to:Int) (e:Int) (ht:l.length≤t.length) (hll:l.length≤201) (h0:0≤to) (h2:to≤200) (hz:∀ z∈t,0≤z∧z≤to):∀ (k i:Nat) (C:List Int),i+k=l.length→C.length=to.toNat+1 →
  ∃ v:List Int,zgX ⟨l⟩ to (t,e) (isE C) (i:Int)=some (zh8 (⟨v⟩,0))∧ziF ⟨l⟩ to (t,e) (isE C) (i:Int)=some (zkQ (⟨v⟩,0))∧v.length=to.toNat+1:=by
 have e1:w64 (to+1)=to+1:=w64_id (by omega) (by omega)
 have ek:(to+1).toNat=to.toNat+1:=by omega
 intro k
 induction k with
 | zero =>
   intro i C hi hC
   refine ⟨C,zn7 _ _ _ _ _ ?_,zp3 _ _ _ _ _ ?_,hC⟩
   · dsimp only
     rw [lenI,zad,if_neg (by omega),e1,List.length_replicate,zac (by simp; omega),List.take_of_length_le (by simp; omega)]; rfl
   · dsimp only
     rw [lenI,zad,if_neg (by omega),e1,List.length_replicate,zac (by simp; omega),List.take_of_length_le (by simp; omega)]; rfl
 | succ k ih =>
   intro i C hi hC
   have ei:w64 ((i:Int)+1)=((i+1:Nat):Int):=by rw [w64_id (by omega) (by omega)]; omega
   have hil:i < l.length:=by omega
   have hit:i < t.length:=by omega
   have hb:=hz _ (List.getElem_mem hit)
   generalize hc:t[i]=c at hb
   have hcl:c.toNat < C.length:=by omega
   obtain ⟨v,k1,k2,k3⟩:=ih (i+1) (C.set c.toNat (w64 (C[c.toNat]+l[i]))) (by omega) (by simpa using hC)
   have es:List.set (isE C) c.toNat (zai (w64 (C[c.toNat]+l[i])))=isE (C.set c.toNat (w64 (C[c.toNat]+l[i]))):=by rw [isE,isE,List.map_set]
   refine ⟨v,zn7 _ _ _ _ _ ?_,zp3 _ _ _ _ _ ?_,k3⟩
   · dsimp only
     rw [lenI,zad,if_pos (by omega),zac (by omega),Int.toNat_natCast,elemI hil,zac (by omega),elemI hit,hc,e1,List.length_replicate,ek,zac (by omega),zac (by omega),Nat.zero_add,elemI hcl,zac (by omega),zac (by omega),elemI hcl,ei,es]
     exact k1
   · dsimp only
     rw [lenI,zad,if_pos (by omega),zac (by omega),Int.toNat_natCast,elemI hit,hc,e1,List.length_replicate,ek,zac (by omega),zac (by omega),Nat.zero_add,elemI hcl,zac (by omega),elemI hil,zac (by omega),zac (by omega),elemI hcl,ei,es]
     exact k2
theorem zAn (l:List Int) (c:GCurve) (to:Int):∃ v:GDistribution×Int,cw zlt [aD l,.agg (zak c),I to] []=some (zh8 v)∧cw zot [aD l,.agg (zak c),I to] []=some (zkQ v)∧v.1.Counts.length≤201:=by
 by_cases h:VD l
 · have l1:=h.1
   have l2:=h.2.1
   have el:w64 (((isE l).length:Int) - 1)=((l.length - 1:Nat):Int):=by rw [lenI,w64_id (by omega) (by omega)]; omega
   obtain ⟨t,p,r,ht,_⟩:=zx1 c ((l.length - 1:Nat):Int) to
   by_cases h0:t.2=0
   · obtain ⟨t0,t1,t2,t3⟩:=ht h0
     have e1:w64 (to+1)=to+1:=w64_id (by omega) (by omega)
     have ek:(to+1).toNat=to.toNat+1:=by omega
     obtain ⟨v,k1,k2,k3⟩:=k_converts l t.1 to t.2 (by rw [t2]; omega) l2 t0 t1 t3 l.length 0 (List.replicate (to.toNat+1) 0) (by omega) (by simp)
     rw [isE,List.map_replicate] at k1 k2
     refine ⟨(⟨v⟩,0),zle _ _ _ ?_,znL _ _ _ ?_,by show v.length≤201; omega⟩
     · dsimp only
       rw [zdD,zaK,zav h,brn_nt,el,p,zjm,h0,brn_f (by rfl),e1,zac rfl,zac (by omega),zac (by omega),ek]
       exact k1
     · dsimp only
       rw [za8,zaB,zav h,brn_nt,el,r,zmo,h0,brn_f (by rfl),e1,zac rfl,zac (by omega),zac (by omega),ek]
       exact k2
   · refine ⟨(⟨[]⟩,t.2),zle _ _ _ ?_,znL _ _ _ ?_,by simp⟩
     · dsimp only
       rw [zdD,zaK,zav h,brn_nt,el,p,zjm,brn_t (bne_iff_ne.2 h0)]; rfl
     · dsimp only
       rw [za8,zaB,zav h,brn_nt,el,r,zmo,brn_t (bne_iff_ne.2 h0)]; rfl
 · refine ⟨(⟨[]⟩,1),zle _ _ _ ?_,znL _ _ _ ?_,by simp⟩
   · rw [zdD,zaK,zaF h]; rfl
   · rw [za8,zaB,zaF h]; rfl
theorem c_same (l:List Int) (hl:l.length≤100000):cw zq0 [.sl 1 (isE l),.sl 1 (isE l)] []=some (znI true):=by
 have key:∀ (k i:Nat),i+k=l.length→zlJ l l (i:Int)=some (znI true):=by
  intro k
  induction k with
  | zero =>
    intro i hi
    refine zsz _ _ _ ?_
    rw [lenI,zad,if_neg (by omega)]; rfl
  | succ k ih =>
    intro i hi
    have ei:w64 ((i:Int)+1)=((i+1:Nat):Int):=by rw [w64_id (by omega) (by omega)]; omega
    refine zsz _ _ _ ?_
    rw [lenI,zad,if_pos (by omega),zac (by omega),Int.toNat_natCast,elemI (by omega),zac (by omega),elemI (by omega),bne_self_eq_false,zat,ei]
    exact ih (i+1) (by omega)
 refine zAx _ _ ?_
 rw [bne_self_eq_false,zat]
 exact key l.length 0 (by omega)
theorem c_rSame (l:List Int) (hl:l.length≤100000):cw zqC [aD l,aD l] []=some (zoy true):=by
 have key:∀ (k i:Nat),i+k=l.length→zlL ⟨l⟩ ⟨l⟩ (i:Int)=some (zoy true):=by
  intro k
  induction k with
  | zero =>
    intro i hi
    refine zsx _ _ _ ?_
    dsimp only
    rw [lenI,zad,if_neg (by omega)]; rfl
  | succ k ih =>
    intro i hi
    have ei:w64 ((i:Int)+1)=((i+1:Nat):Int):=by rw [w64_id (by omega) (by omega)]; omega
    refine zsx _ _ _ ?_
    dsimp only
    rw [lenI,zad,if_pos (by omega),zac (by omega),Int.toNat_natCast,elemI (by omega),zac (by omega),elemI (by omega),bne_self_eq_false,zat,ei]
    exact ih (i+1) (by omega)
 refine zBk _ _ ?_
 rw [bne_self_eq_false,zat]
 exact key l.length 0 (by omega)
end Go.Proofs.YtbhkcgaanaelfaaGreat
namespace Go.Proofs.YtbhkcgaanaelfaaGreat
open Go.Ab
set_option linter.unusedSimpArgs false
set_option linter.unusedVariables false
def DOk (d:GmarkDice):Prop:=0≤d.At∧d.L.length≤600
noncomputable abbrev mD (d:GmarkDice):Mem:=[(1000,⟨2,zaq,[zaR d],true⟩)]
theorem tmod_lt {a n:Int} (hn:0 < n):-n < a.tmod n∧a.tmod n < n:=by
 have h1:=Int.tmod_lt_of_pos a hn
 refine ⟨?_,h1⟩
 have h2:=Int.tmod_lt_of_pos (-a) hn
 rw [Int.neg_tmod] at h2
 omega
theorem c_Light (t:List Int):cw zqY [.sl 1 (List.map zai t)] []=some (zq3 (decide ((t.length:Int)≤600))):=
 zBC t (by rw [List.length_map]; rfl)
theorem c_Roll (t:List Int):cw zsa [.sl 1 (List.map zai t)] []=some (zrO ⟨t,0⟩):=zCp t rfl
theorem zol (d:GmarkDice) (n:Int) (hd:DOk d) (hn:n≤4611686018427387904) :
  ∃ (r:Int) (d':GmarkDice),cw zbZ [.loc 1000 2 0 0,I n] (mD d)=some (zm7 (r,d'))∧0≤r∧(r < n∨r=0)∧DOk d':=by
 by_cases h1:(d.L.length:Int)≤d.At
 · refine ⟨0,d,zjo d n ?_,by omega,.inr rfl,hd⟩
   simp (disch:=omega) only [List.length_map,zvl]; rfl
 by_cases h2:n < 1
 · refine ⟨0,d,zjo d n ?_,by omega,.inr rfl,hd⟩
   simp (disch:=omega) only [List.length_map,zvl,brn_neg]; rfl
 obtain ⟨ha,hl⟩:=hd
 have hlt:d.At.toNat < d.L.length:=by omega
 have hb:=tmod_lt (a:=d.L[d.At.toNat]) (n:=n) (by omega)
 have hd':DOk ⟨d.L,d.At+1⟩:=⟨by show 0≤d.At+1; omega,hl⟩
 by_cases h3:(d.L[d.At.toNat]).tmod n < 0
 · refine ⟨(d.L[d.At.toNat]).tmod n+n,⟨d.L,d.At+1⟩,zjo d n ?_,by omega,.inl (by omega),hd'⟩
   simp (disch:=omega) [zvl,brn_neg,zac,hlt,w64_id]; rfl
 · refine ⟨(d.L[d.At.toNat]).tmod n,⟨d.L,d.At+1⟩,zjo d n ?_,by omega,.inl (by omega),hd'⟩
   simp (disch:=omega) [zvl,brn_neg,zac,hlt,w64_id]; rfl
theorem c_Pick (d:GmarkDice) (l:List Int) (hd:DOk d) (hl:l≠[]) (hl2:l.length≤1000) :
  ∃ (r:Int) (d':GmarkDice),cw znj [.loc 1000 2 0 0,.sl 1 (List.map zai l)] (mD d)=some (znk (r,d'))∧r∈l∧DOk d':=by
 obtain ⟨r,d',h,h0,h1,hd'⟩:=zol d l.length hd (by omega)
 have hpos:0 < l.length:=List.length_pos_iff.2 hl
 have hlt:r.toNat < l.length:=by omega
 refine ⟨l[r.toNat],d',zw9 d l ?_,List.getElem_mem hlt,hd'⟩
 simp (disch:=omega) only [List.length_map,h,zbM,zac,zCk,List.getElem?_eq_getElem hlt,Option.bind_some]
 rfl
theorem zza:∀ (k:Nat) (l:List GPoint) (d:GmarkDice) (x y:Int),DOk d→k≤4→l.length+k≤5 →
  ∃ (m:List GPoint) (d':GmarkDice),zhz (List.map zag l) d x y (k:Int)=some (zix (⟨m⟩,d'))∧DOk d'∧m.length=l.length+k
 | 0,l,d,x,y,hd,hk,hl=>by
   refine ⟨l,d,zoA _ _ _ _ _ ?_,hd,by omega⟩
   rw [zad,if_neg (by omega),zac (by omega),List.take_length]
   rfl
 | k+1,l,d,x,y,hd,hk,hl=>by
   obtain ⟨a,d1,h1,a0,a1,hd1⟩:=zol d 3 hd (by omega)
   obtain ⟨b,d2,h2,b0,b1,hd2⟩:=zol d1 4 hd1 (by omega)
   have e:w64 (((k+1:Nat):Int) - 1)=(k:Int):=by rw [w64_id (by omega) (by omega)]; omega
   obtain ⟨m,d',h3,h4,h5⟩:=zza k (l++[⟨⟨w64 (w64 (x+1)+a),1⟩,⟨w64 (w64 (y+1)+b),1⟩⟩]) d2 (w64 (w64 (x+1)+a)) (w64 (w64 (y+1)+b)) hd2 (by omega) (by simp; omega)
   refine ⟨m,d',zoA _ _ _ _ _ ?_,h4,by rw [h5]; simp; omega⟩
   rw [zad,if_pos (by omega),h1,zbM,h2,zbM,zac rfl,zac (by simp; omega),e]
   rw [List.map_append] at h3
   exact h3
theorem c_DCurveG (d:GmarkDice) (hd:DOk d):∃ (c:GCurve) (d':GmarkDice),cw zml [.loc 1000 2 0 0] (mD d)=some (zix (c,d'))∧DOk d'∧2≤c.Points.length∧c.Points.length≤5:=by
 obtain ⟨a,d1,h1,a0,a1,hd1⟩:=zol d 9 hd (by omega)
 obtain ⟨b,d2,h2,b0,b1,hd2⟩:=zol d1 9 hd1 (by omega)
 obtain ⟨k,d3,h3,k0,k1,hd3⟩:=zol d2 4 hd2 (by omega)
 obtain ⟨m,d',q1,q2,q3⟩:=zza (1+k).toNat [⟨⟨w64 (a - 4),1⟩,⟨w64 (b - 4),1⟩⟩] d3 (w64 (a - 4)) (w64 (b - 4)) hd3 (by omega) (by simp; omega)
 simp only [List.length_singleton] at q3
 have ek:w64 (1+k)=(((1+k).toNat:Nat):Int):=by rw [w64_id (by omega) (by omega)]; omega
 refine ⟨⟨m⟩,d',zv7 d ?_,q2,by show 2≤m.length; omega,by show m.length≤5; omega⟩
 rw [h1,zbM,h2,zbM,h3,zbM,ek]
 exact q1
end Go.Proofs.YtbhkcgaanaelfaaGreat
namespace Go.Proofs.YtbhkcgaanaelfaaGreat
open Go.Ab Go.Pure
set_option linter.unusedSimpArgs false
set_option linter.unusedVariables false
set_option maxRecDepth 20000
theorem fit_of {r:Rat} (h:(decide (r.num.natAbs≤1152921504606846976) && decide (r.den≤1152921504606846976))=true):Fit r:=by
 simp only [Bool.and_eq_true,decide_eq_true_eq] at h
 exact h
def s2:List Int:=[1,1]
def s4:List Int:=[1,1,1,1]
theorem s2_fd:FD s2:=by unfold s2 FD VD; decide
theorem s4_fd:FD s4:=by unfold s4 FD VD; decide
def q (n:Int) (d:Nat):Rat:=mkRat n d
def sP:List Pt:=[(q (-1) 2,q (-1) 2),(q 0 1,q 1 2),(q 1 2,q 3 2),(q 1 1,q 5 2),(q 3 2,q 7 2)]
def sN:List Pt:=[(q 0 1,q 1 2),(q 1 1,q 5 2)]
theorem sP_eq:pcP s2 s4=sP:=by kernel_rfl
theorem sP_nf:nf sP=sN:=by kernel_rfl
theorem sP_lf:lf (bn sP)=q 0 1:=by kernel_rfl
theorem sP_rt:rt (bn sP)=q 1 1:=by kernel_rfl
theorem sP_p0:Go.Pure.pc sP (q 0 1)=((q (-1) 2,q (-1) 2),(q 0 1,q 1 2)):=by kernel_rfl
theorem sP_p1:Go.Pure.pc sP (q 1 1)=((q 1 2,q 3 2),(q 1 1,q 5 2)):=by kernel_rfl
theorem sP_nfF:NfF sP:=by
 refine ⟨⟨⟨fit_of (by kernel_rfl),fit_of (by kernel_rfl),fit_of (by kernel_rfl)⟩,⟨fit_of (by kernel_rfl),fit_of (by kernel_rfl),fit_of (by kernel_rfl)⟩,⟨fit_of (by kernel_rfl),fit_of (by kernel_rfl),fit_of (by kernel_rfl)⟩,⟨fit_of (by kernel_rfl),fit_of (by kernel_rfl),fit_of (by kernel_rfl)⟩,trivial⟩,?_,?_,?_,?_⟩
 · rw [sP_lf]; exact fit_of (by kernel_rfl)
 · rw [sP_rt]; exact fit_of (by kernel_rfl)
 · rw [sP_lf]; unfold EvF; rw [sP_p0]
   exact ⟨⟨fit_of (by kernel_rfl),fit_of (by kernel_rfl),fit_of (by kernel_rfl)⟩,fit_of (by kernel_rfl),fit_of (by kernel_rfl),fit_of (by kernel_rfl)⟩
 · rw [sP_rt]; unfold EvF; rw [sP_p1]
   exact ⟨⟨fit_of (by kernel_rfl),fit_of (by kernel_rfl),fit_of (by kernel_rfl)⟩,fit_of (by kernel_rfl),fit_of (by kernel_rfl),fit_of (by kernel_rfl)⟩
theorem two_asc {p q:Pt} (h1:p.1 < q.1) (h2:p.2 < q.2):Asc [p,q]:=by
 unfold Asc
 simp only [List.pairwise_cons,List.mem_singleton,forall_eq,List.not_mem_nil,false_imp_iff,implies_true,List.Pairwise.nil,and_true]
 exact ⟨h1,h2⟩
theorem zzs {p r:Pt} (n:Int) (v:Rat) (hn:n.natAbs≤100) (fp:Fit p.1∧Fit p.2) (fr:Fit r.1∧Fit r.2) (h1:p.1 < r.1) (h2:p.2 < r.2) (he:LnF p r (n:Rat)) (hv:ln p (sl p r) (n:Rat)=v) :
  cw zdu [.agg (zak (cF [p,r])),.agg (zaa ⟨n,1⟩)] []=some (zgD (ofR v,0)):=by
 have ha:=two_asc h1 h2
 have hf:AllF [p,r]:=fun z hz=>by
  simp only [List.mem_cons,List.not_mem_nil,or_false] at hz
  rcases hz with rfl | rfl
  · exact fp
  · exact fr
 have hpc:Go.Pure.pc [p,r] (n:Rat)=(p,r):=by unfold Go.Pure.pc; rw [if_pos (.inl rfl)]
 have hev:EvF [p,r] (n:Rat):=by unfold EvF; rw [hpc]; exact he
 have vr:VR ⟨n,1⟩:=⟨by show (1:Int)≤1; omega,by show (1:Int)≤_; omega,by show _≤n; omega,by show n≤_; omega,by simp⟩
 refine zgw _ _ ?_
 rw [zf9,zbi,zav (vc_of hf ha (by simp) (by simp)),brn_nt,zek,za5,decide_eq_true vr,brn_nt]
 show callD zbs (cw zbq [.sl 4 (ptsE [p,r]),aR (n:Rat)] []) _=_
 rw [zqu [p,r] (n:Rat) ha (by simp) (by simp) hf ⟨by show n.natAbs≤_; omega,by show 1≤_; omega⟩ hev,zbv,cv_two,hv]
 rfl
theorem s_mean:cw ze6 [aD s2,aD s4] []=some (zkG (cF [(q 0 1,q 1 1),(q 1 1,q 2 1)],0)):=by
 have B:=c_bothM s2 s4
 rw [if_neg (fun h=>by
  rcases h with h | h | h
  · exact h ⟨s2_fd.1,s4_fd.1⟩
  · exact absurd h (by decide)
  · exact absurd h (by decide))] at B
 have m2:mn s2=q 1 2:=by kernel_rfl
 have m4:mn s4=q 3 2:=by kernel_rfl
 rw [m2,m4] at B
 have f1:Fit (q 1 2):=fit_of (by kernel_rfl)
 have f2:Fit (q 3 2):=fit_of (by kernel_rfl)
 have f3:Fit (q 1 1):=fit_of (by kernel_rfl)
 have f4:Fit (q 2 1):=fit_of (by kernel_rfl)
 have M:=zqW (q 1 1) (q 1 2) f3 f1
 have e1:q 1 1*q 1 2=q 1 2:=by kernel_rfl
 rw [e1,zbI f1] at M
 have S:=c_SubF (q 3 2) (q 1 2) f2 f1
 have e2:q 3 2 - q 1 2=q 1 1:=by kernel_rfl
 rw [e2,zbI f3] at S
 have A:=zsN (q 1 1) (q 1 1) f3 f3
 have e3:q 1 1+q 1 1=q 2 1:=by kernel_rfl
 rw [e3,zbI f4] at A
 have vr:=fit_VR f3
 have L:cw ziM [aR (q 1 1),aR (q 1 1)] []=some (zis (cF [(q 0 1,q 1 1),(q 1 1,q 2 1)],0)):=by
  refine zfs _ _ ?_
  have n1:¬ (ofR (q 1 1)).Num≤0:=by decide +kernel
  rw [zek,za5,decide_eq_true vr,brn_nt,za5,brn_nt,zad,if_neg n1,A,ze7,brn_f (by rfl),zlk,zbj,zlk,zbj]
  rfl
 have T:cw zc7 [aR (q 1 1),aR (q 1 2),aR (q 3 2)] []=some (zhT (cF [(q 0 1,q 1 1),(q 1 1,q 2 1)],0)):=by
  refine zh9 _ _ _ ?_
  rw [M,zer,brn_f (by rfl),S,zhS,brn_f (by rfl),L,znE]
  rfl
 refine zgg _ _ ?_
 rw [B,zaY,brn_f (by rfl)]
 show callD zc9 (cw zc7 [aR (q 1 1),aR (q 1 2),aR (q 3 2)] []) _=_
 rw [T,zio]
 rfl
theorem zxa (n:Int):cw zj4 [I n] []=some (zpD ⟨n,1⟩):=zzS n rfl
theorem zs3:cw ziW [] []=some (zrc true):=by
 have P:=zu8 s2_fd s4_fd
 rw [sP_eq,nfR_ok sP_nfF,sP_nf] at P
 have lt1:q 0 1 < q 1 1:=by decide +kernel
 have E0:=zzs (p:=(q 0 1,q 1 2)) (r:=(q 1 1,q 5 2)) 0 (q 1 2) (by omega) ⟨fit_of (by kernel_rfl),fit_of (by kernel_rfl)⟩ ⟨fit_of (by kernel_rfl),fit_of (by kernel_rfl)⟩ lt1 (by decide +kernel)
  ⟨⟨fit_of (by kernel_rfl),fit_of (by kernel_rfl),fit_of (by kernel_rfl)⟩,fit_of (by kernel_rfl),fit_of (by kernel_rfl),fit_of (by kernel_rfl)⟩ (by kernel_rfl)
 have E5:=zzs (p:=(q 0 1,q 1 1)) (r:=(q 1 1,q 2 1)) 5 (q 6 1) (by omega) ⟨fit_of (by kernel_rfl),fit_of (by kernel_rfl)⟩ ⟨fit_of (by kernel_rfl),fit_of (by kernel_rfl)⟩ lt1 (by decide +kernel)
  ⟨⟨fit_of (by kernel_rfl),fit_of (by kernel_rfl),fit_of (by kernel_rfl)⟩,fit_of (by kernel_rfl),fit_of (by kernel_rfl),fit_of (by kernel_rfl)⟩ (by kernel_rfl)
 have o12:ofR (q 1 2)=⟨1,2⟩:=by kernel_rfl
 have o61:ofR (q 6 1)=⟨6,1⟩:=by kernel_rfl
 refine zA1 ?_
 show callD zc2 (cw zc1 [aD s2,aD s4] []) _=_
 rw [P,zgW,zxa,zma]
 show callD zeo (cw zdu [.agg (zak (cF sN)),.agg (zaa ⟨0,1⟩)] []) _=_
 rw [show sN=[(q 0 1,q 1 2),(q 1 1,q 5 2)] from rfl,E0,zgp]
 show callD ze5 (cw ze6 [aD s2,aD s4] []) _=_
 rw [s_mean,zkj,zxa,zma,E5,zgp,o12,o61,brn_t (by rfl),brn_t (by rfl),brn_t (by rfl),brn_t (by rfl),brn_t (by rfl),zxa,zma]
 rfl
theorem k_DDist (e:Int):∀ (k:Nat) (l:List Int) (d:GmarkDice),DOk d→l.length+k≤7 →
  ∃ (m:List Int) (d':GmarkDice),zdi (isE l) d e (k:Int)=some (zfe (⟨m⟩,d'))∧DOk d'∧m.length=l.length+k
 | 0,l,d,hd,hl=>by
   refine ⟨l,d,zj6 _ _ _ _ ?_,hd,by omega⟩
   rw [zad,if_neg (by omega),zac (by omega),List.take_length]
   rfl
 | k+1,l,d,hd,hl=>by
   obtain ⟨a,d1,h1,_,hd1⟩:=c_Pick d [0,1,2,5,0] hd (by simp) (by simp)
   have ew:w64 (((k+1:Nat):Int) - 1)=(k:Int):=by rw [w64_id (by omega) (by omega)]; omega
   obtain ⟨m,d',h3,h4,h5⟩:=k_DDist e k (l++[w64 (e+a)]) d1 hd1 (by simp; omega)
   refine ⟨m,d',zj6 _ _ _ _ ?_,h4,by rw [h5]; simp; omega⟩
   rw [zad,if_pos (by omega),h1,zth,zac rfl,zac (by simp; omega),ew]
   rw [isE,List.map_append] at h3
   exact h3
theorem c_DDist (d:GmarkDice) (b:Bool) (hd:DOk d):∃ (x:GDistribution) (d':GmarkDice),cw zdX [.loc 1000 2 0 0,I 6,B b] (mD d)=some (zfe (x,d'))∧DOk d'∧x.Counts.length≤7:=by
 obtain ⟨r,d1,h1,r0,r1,hd1⟩:=zol d 7 hd (by omega)
 have e7:w64 (6+1)=7:=by rw [w64_id (by omega) (by omega)]; omega
 have er:w64 (1+r)=(((1+r).toNat:Nat):Int):=by rw [w64_id (by omega) (by omega)]; omega
 cases b with
 | true =>
   obtain ⟨m,d',k1,k2,k3⟩:=k_DDist 1 (1+r).toNat [] d1 hd1 (by simp; omega)
   refine ⟨⟨m⟩,d',zk8 d 6 true ?_,k2,by show m.length≤7; simp at k3; omega⟩
   rw [zaG,e7,h1,zbM,er]
   exact k1
 | false =>
   obtain ⟨m,d',k1,k2,k3⟩:=k_DDist 0 (1+r).toNat [] d1 hd1 (by simp; omega)
   refine ⟨⟨m⟩,d',zk8 d 6 false ?_,k2,by show m.length≤7; simp at k3; omega⟩
   rw [zat,e7,h1,zbM,er]
   exact k1
section
variable (t:List Int) (raw:GDistribution) (cu:GCurve) (kind fr to:Int)
theorem law_4 (r7:GDistribution×GmarkDice) (r11:GCurve×GmarkDice) (x13:Int) (c:GCurve) (r31 r32:Int×GmarkDice) (K:zeh cu fr to r7 r11 r32.snd (w64 (x13+1))=some (zcz true)):∀ (k i:Nat),i+k=2→zfD cu fr to r7 r11 x13 c r31 r32 (i:Int)=some (zcz true):=by
 intro k
 induction k with
 | zero =>
   intro i hi
   refine zl4 _ _ _ _ _ _ _ _ _ _ ?_
   rw [zad,if_neg (by omega)]
   exact K
 | succ k ih =>
   intro i hi
   have ew:w64 ((i:Int)+1)=((i+1:Nat):Int):=by rw [w64_id (by omega) (by omega)]; omega
   refine zl4 _ _ _ _ _ _ _ _ _ _ ?_
   rw [zad,if_pos (by omega),zac (by omega),zac (by omega),Int.toNat_natCast,ew]
   have hlt:i < ([(fr,to),(r31.fst,r32.fst)]:List (Int×Int)).length:=by simp; omega
   refine (zdY (D:=zvf) (List.getElem?_eq_getElem hlt) _).trans ?_
   obtain ⟨v,p,r,_,hl⟩:=zx1 c _ _
   obtain ⟨u,p2,r2,hl2⟩:=zAn r7.1.Counts c ([(fr,to),(r31.fst,r32.fst)][i]'hlt).2
   rw [p,zjm,r,zmo,p2,zrR,r2,zud,c_same v.1 (by omega),zwQ,brn_nt,bne_self_eq_false,zat,c_rSame u.1.Counts (by omega),zwG,brn_nt,bne_self_eq_false,zat]
   exact ih (i+1) (by omega)
theorem law_3 (r7:GDistribution×GmarkDice) (r11:GCurve×GmarkDice):∀ (k i:Nat) (d:GmarkDice),DOk d→i+k=2→zeh cu fr to r7 r11 d (i:Int)=some (zcz true):=by
 intro k
 induction k with
 | zero =>
   intro i d hd hi
   refine zl3 _ _ _ _ _ _ _ ?_
   rw [zad,if_neg (by omega),zs3,zji]
   rfl
 | succ k ih =>
   intro i d hd hi
   have ew:w64 ((i:Int)+1)=((i+1:Nat):Int):=by rw [w64_id (by omega) (by omega)]; omega
   obtain ⟨n,d1,n1,_,_,hd1⟩:=zol d 12 hd (by omega)
   obtain ⟨m,d2,n2,_,_,hd2⟩:=zol d1 20 hd1 (by omega)
   refine zl3 _ _ _ _ _ _ _ ?_
   rw [zad,if_pos (by omega),zac (by omega),zac (by omega),Int.toNat_natCast]
   have hlt:i < ([r11.fst,cu]:List GCurve).length:=by simp; omega
   refine (zdY (D:=zar) (List.getElem?_eq_getElem hlt) _).trans ?_
   rw [n1,zbM,n2,zbM]
   refine law_4 cu fr to r7 r11 (i:Int) _ (n,d1) (m,d2) ?_ 2 0 (by omega)
   rw [ew]
   exact ih (i+1) d2 hd2 (by omega)
variable (r5 r6 r7:GDistribution×GmarkDice)
theorem law_2 (x8:Int) (c9:GDistribution×GDistribution) (hl:c9.1.Counts.length+c9.2.Counts.length≤47) (h5:r5.1.Counts.length≤7) (h6:r6.1.Counts.length≤7) (K:zej t raw cu kind fr to r5 r6 r7 (w64 (x8+1))=some (zcz true)):∀ (k i:Nat),i+k=4→zfC t raw cu kind fr to r5 r6 r7 x8 c9 (i:Int)=some (zcz true):=by
 intro k
 induction k with
 | zero =>
   intro i hi
   obtain ⟨v1,p1,q1,l1⟩:=zxJ c9.1.Counts c9.2.Counts
   obtain ⟨v2,p2,q2,l2⟩:=zu2 c9.1.Counts c9.2.Counts
   obtain ⟨v3,p3,q3,l3⟩:=zqV c9.1.Counts c9.2.Counts
   refine zlZ _ _ _ _ _ _ _ _ _ _ _ _ ?_
   rw [zad,if_neg (by omega),p1,zkj,q1,zqT,p2,znq,q2,zpk,p3,zgW,q3,zmD,
    zsK v1.1 v1.1 (by omega),zgy,zav rfl,brn_nt,bne_self_eq_false,zat,zsK v2.1 v2.1 (by omega),zgy,zav rfl,brn_nt,bne_self_eq_false,zat,zsK v3.1 v3.1 (by omega),zgy,zav rfl,brn_nt,bne_self_eq_false,zat]
   exact K
 | succ k ih =>
   intro i hi
   have ew:w64 ((i:Int)+1)=((i+1:Nat):Int):=by rw [w64_id (by omega) (by omega)]; omega
   refine zlZ _ _ _ _ _ _ _ _ _ _ _ _ ?_
   rw [zad,if_pos (by omega),zac (by omega),zac (by omega),Int.toNat_natCast,ew]
   have hlt:i < ([kind,0,1,2]:List Int).length:=by simp; omega
   refine (zdY (D:=zaw) (List.getElem?_eq_getElem hlt) _).trans ?_
   generalize ([kind,0,1,2][i]'hlt)=kk
   obtain ⟨v,p,r,hl1⟩:=zsd kk c9.1.Counts c9.2.Counts
   obtain ⟨w,p2,r2,hl2⟩:=both_Chain kk c9.1.Counts c9.2.Counts r5.1.Counts r6.1.Counts (by omega)
   rw [p,zdL,r,zeP,zsK v.1 v.1 (by omega),zgy,zav rfl,brn_nt,bne_self_eq_false,zat,p2,zs2,r2,zvE,zsK w.1 w.1 (by omega),zgy,zav rfl,brn_nt,bne_self_eq_false,zat]
   exact ih (i+1) (by omega)
theorem law_1 (hd7:DOk r7.2) (h5:r5.1.Counts.length≤7) (h6:r6.1.Counts.length≤7) (h7:r7.1.Counts.length≤7) (hr:raw.Counts.length≤40):∀ (k i:Nat),i+k=5→zej t raw cu kind fr to r5 r6 r7 (i:Int)=some (zcz true):=by
 intro k
 induction k with
 | zero =>
   intro i hi
   obtain ⟨c,d1,n1,hd1,_,_⟩:=c_DCurveG r7.2 hd7
   refine zl1 _ _ _ _ _ _ _ _ _ _ ?_
   rw [zad,if_neg (by omega),n1,zsu]
   exact law_3 cu fr to r7 (c,d1) 2 0 d1 hd1 (by omega)
 | succ k ih =>
   intro i hi
   have ew:w64 ((i:Int)+1)=((i+1:Nat):Int):=by rw [w64_id (by omega) (by omega)]; omega
   refine zl1 _ _ _ _ _ _ _ _ _ _ ?_
   rw [zad,if_pos (by omega),zac (by omega),zac (by omega),Int.toNat_natCast]
   have hlt:i < ([((⟨r5.fst.Counts⟩:GDistribution),(⟨r6.fst.Counts⟩:GDistribution)),(⟨r5.fst.Counts⟩,⟨r7.fst.Counts⟩),(⟨r7.fst.Counts⟩,⟨r5.fst.Counts⟩),(⟨raw.Counts⟩,⟨r5.fst.Counts⟩),(⟨r5.fst.Counts⟩,⟨[0,0]⟩)]:List (GDistribution×GDistribution)).length:=by simp; omega
   refine (zdY (D:=zl7) (List.getElem?_eq_getElem hlt) _).trans ?_
   have hsum:∀ q∈([((⟨r5.fst.Counts⟩:GDistribution),(⟨r6.fst.Counts⟩:GDistribution)),(⟨r5.fst.Counts⟩,⟨r7.fst.Counts⟩),(⟨r7.fst.Counts⟩,⟨r5.fst.Counts⟩),(⟨raw.Counts⟩,⟨r5.fst.Counts⟩),(⟨r5.fst.Counts⟩,⟨[0,0]⟩)]:List (GDistribution×GDistribution)),q.1.Counts.length+q.2.Counts.length≤47:=fun q hq=>by
    simp only [List.mem_cons,List.not_mem_nil,or_false] at hq
    rcases hq with rfl | rfl | rfl | rfl | rfl <;> (simp only [List.length_cons,List.length_nil]; omega)
   refine law_2 t raw cu kind fr to r5 r6 r7 (i:Int) _ (hsum _ (List.getElem_mem hlt)) h5 h6 ?_ 4 0 (by omega)
   rw [ew]
   exact ih (i+1) (by omega)
end
theorem zvL (t:List Int) (raw:GDistribution) (cu:GCurve) (kind fr to:Int) :
  cw znD [.sl 1 (List.map zai t),.agg (zab raw),.agg (zak cu),I kind,I fr,I to] []=some (zcz true):=by
 refine zsm _ _ _ _ _ _ ?_
 rw [c_Light,zw1]
 by_cases ht:(t.length:Int)≤600
 · rw [decide_eq_true ht,brn_nt,zad,lenI,lenG]
   by_cases hr:40 < (raw.Counts.length:Int)
   · rw [if_pos hr,zs3,zji]; rfl
   · rw [if_neg hr,zad]
     by_cases hc:20 < (cu.Points.length:Int)
     · rw [if_pos hc,zs3,zji]; rfl
     · have hd0:DOk ⟨t,0⟩:=⟨by show (0:Int)≤0; omega,by show t.length≤600; omega⟩
       obtain ⟨a,d1,n1,hd1,l1⟩:=c_DDist ⟨t,0⟩ true hd0
       obtain ⟨b,d2,n2,hd2,l2⟩:=c_DDist d1 true hd1
       obtain ⟨c,d3,n3,hd3,l3⟩:=c_DDist d2 false hd2
       rw [if_neg hc,c_Roll,zx4,n1,zfO,n2,zfO,n3,zfO]
       exact law_1 t raw cu kind fr to (a,d1) (b,d2) (c,d3) hd3 l1 l2 l3 (by omega) 5 0 (by omega)
 · rw [decide_eq_false ht,brn_nf,zs3,zji]; rfl
end Go.Proofs.YtbhkcgaanaelfaaGreat
namespace Go.Ab
open Go.RowKit
abbrev Old (w:World):Nat→Prop:=fun g=>g < w.heap.size
def Rd (P:Program) (w:World) (t:TypeId) (n:Nat) {T:Type} (nT:T→List AV):Prop:=
 P.cellsOf t=n∧(∀ v,(nT v).length=n) ∧
 ∀ (H:Type) (enc:TypeId×Value→H) (base:Nat) (spare:Nat→Bool) (held:Bool) (fuel:Nat) (cs:List Value) (x:DataW H×List MemPlace),DataW.trod enc P w base spare held fuel t cs=some x →
   ∃ v:T,cs.length=n∧∀ (j:Nat) (c:AV) (y:Value),(nT v)[j]?=some c→cs[j]?=some y→CRel (Old w) w c y∧y.oneCell'=true
theorem rd_int {P:Program} {w:World} {t:TypeId} {k:IntKind} (hc:P.cellsOf t=1) (ht:P.underlying t=some (.int k)):Rd P w t 1 (fun n:Int=>[AV.v (.int k n)]):=by
 refine ⟨hc,fun _=>rfl,fun H enc base spare held fuel cs x h=>?_⟩
 obtain ⟨n,rfl,_,_⟩:=DataW.trod_int ht h
 refine ⟨n,rfl,fun j c y h1 h2=>?_⟩
 cases j with
 | zero=>simp at h1 h2; subst h1; subst h2; exact ⟨.v _,rfl⟩
 | succ j=>simp at h1
theorem rd_map {P:Program} {w:World} {t:TypeId} {n:Nat} {T U:Type} {nT:T→List AV} {nU:U→List AV} (h:Rd P w t n nT) (g:T→U) (hg:∀ v,nU (g v)=nT v) (hl:∀ u,(nU u).length=n):Rd P w t n nU:=by
 refine ⟨h.1,hl,fun H enc base spare held fuel cs x hx=>?_⟩
 obtain ⟨v,h1,h2⟩:=h.2.2 H enc base spare held fuel cs x hx
 exact ⟨g v,h1,by rw [hg]; exact h2⟩
theorem list_of {T:Type} {R:Nat→T→Prop}:∀ n:Nat,(∀ i,i < n→∃ v,R i v)→∃ l:List T,l.length=n∧∀ i v,l[i]?=some v→R i v
 | 0,_=>⟨[],rfl,fun i v h=>by simp at h⟩
 | n+1,h=>by
   obtain ⟨l,h1,h2⟩:=list_of n (fun i hi=>h i (by omega))
   obtain ⟨v,hv⟩:=h n (by omega)
   refine ⟨l++[v],by simp [h1],fun i u hu=>?_⟩
   by_cases hi:i < n
   · rw [List.getElem?_append_left (by omega)] at hu
     exact h2 i u hu
   · have hlt:=(List.getElem?_eq_some_iff.1 hu).1
     simp at hlt
     have:i=l.length:=by omega
     subst this
     rw [List.getElem?_append_right (by omega)] at hu
     simp at hu
     subst hu
     rw [h1]
     exact hv
theorem rd_slice {P:Program} {w:World} {t e:TypeId} {n:Nat} {T:Type} {nT:T→List AV} (hc:P.cellsOf t=1) (ht:P.underlying t=some (.slice e)) (hn:0 < n) (he:Rd P w e n nT) :
  Rd P w t 1 (fun l:List T=>[AV.sl n (l.map nT)]):=by
 refine ⟨hc,fun _=>rfl,fun H enc base spare held fuel cs x h=>?_⟩
 have done:∀ (l:List T) (y:Value),CRel (Old w) w (.sl n (l.map nT)) y→y.oneCell'=true→∃ v:List T,[y].length=1∧∀ (j:Nat) (c:AV) (z:Value),[AV.sl n (v.map nT)][j]?=some c→[y][j]?=some z→CRel (Old w) w c z∧z.oneCell'=true:=by
  intro l y hy h1
  refine ⟨l,rfl,fun j c z hj hz=>?_⟩
  cases j with
  | zero=>simp at hj hz; subst hj; subst hz; exact ⟨hy,h1⟩
  | succ j=>simp at hj
 rcases DataW.trod_slice ht h with ⟨rfl,_⟩ | ⟨a,len,cap,elems,rest,m,rfl,rfl,_,hb,hl,_,hlen,hel,_,_⟩
 · exact done [] _ (CRel.nil_sl n) rfl
 · have each:∀ i,i < len→∃ v:T,a.block < w.heap.size∧∀ (j:Nat) (c:AV),(nT v)[j]?=some c→∃ y,w.cell? (a.add (i*n+j))=some y∧CRel (Old w) w c y∧y.oneCell'=true:=by
    intro i hi
    have h1:=hel i hi
    rw [List.getElem?_eq_getElem (by omega),he.1] at h1
    obtain ⟨cs',h2,h3⟩:=Option.bind_eq_some_iff.1 h1
    obtain ⟨v,h4,h5⟩:=he.2.2 H enc base spare held m cs' _ h3
    obtain ⟨h6,h7,h8⟩:=World.cells?_some h2
    have hblk:=World.cells?_block h2 hn
    rw [zjd] at hblk
    refine ⟨v,hblk,fun j c hj=>?_⟩
    have hjn:j < n:=by have:=(List.getElem?_eq_some_iff.1 hj).1; rw [he.2.1] at this; exact this
    have h9:=h8 j hjn
    rw [Go.Addr.add_add] at h9
    have h10:cs'[j]?=some (cs'[j]'(by omega)):=List.getElem?_eq_getElem (by omega)
    refine ⟨cs'[j]'(by omega),by rw [h9,h10],h5 j c _ hj h10⟩
   obtain ⟨l,hll,hlr⟩:=list_of len each
   refine done l _ (.sl n _ (some a) len cap (fun i j=>(w.cell? (a.add (i*n+j))).getD undef) (by simp; omega) hl (fun cs hcs=>by obtain ⟨v,_,rfl⟩:=List.mem_map.1 hcs; exact he.2.1 v) ?_ ?_) rfl
   · cases l with
     | nil=>left; rfl
     | cons v l' =>
       right
       refine ⟨a,rfl,(hlr 0 v rfl).1,fun i j cs c h1 h2=>?_⟩
       rw [List.getElem?_map] at h1
       obtain ⟨u,hu,rfl⟩:=Option.map_eq_some_iff.1 h1
       obtain ⟨y,hy,hr,ho⟩:=(hlr i u hu).2 j c h2
       rw [hy]
       exact ⟨rfl,ho⟩
   · intro i j cs c h1 h2
     rw [List.getElem?_map] at h1
     obtain ⟨u,hu,rfl⟩:=Option.map_eq_some_iff.1 h1
     obtain ⟨y,hy,hr,ho⟩:=(hlr i u hu).2 j c h2
     rw [hy]
     exact hr
def RdF (P:Program) (w:World) (fs:List Field) (off n:Nat) {T:Type} (nT:T→List AV):Prop:=
 (∀ v,(nT v).length=n)∧∀ (H:Type) (enc:TypeId×Value→H) (base:Nat) (spare:Nat→Bool) (held:Bool) (fuel:Nat) (cs:List Value),off+n≤cs.length →
  (∀ f∈fs,∃ x,DataW.trod enc P w base spare held fuel f.type ((cs.drop f.offset).take (P.cellsOf f.type))=some x) →
  ∃ v:T,∀ (j:Nat) (c:AV) (y:Value),(nT v)[j]?=some c→cs[off+j]?=some y→CRel (Old w) w c y∧y.oneCell'=true
theorem zvy {P:Program} {w:World} {off:Nat}:RdF P w [] off 0 (fun _:Unit=>[]):=
 ⟨fun _=>rfl,fun _ _ _ _ _ _ _ _ _=>⟨(),fun j c y h=>by simp at h⟩⟩
theorem zo1 {P:Program} {w:World} {f:Field} {fs:List Field} {off n m:Nat} {A B:Type} {nA:A→List AV} {nB:B→List AV} (hA:Rd P w f.type n nA) (ho:f.offset=off) (hB:RdF P w fs (off+n) m nB) :
  RdF P w (f :: fs) off (n+m) (fun v:A×B=>nA v.1++nB v.2):=by
 refine ⟨fun v=>by simp [hA.2.1,hB.1],fun H enc base spare held fuel cs hl h=>?_⟩
 obtain ⟨x,hx⟩:=h f (by simp)
 obtain ⟨a,h1,h2⟩:=hA.2.2 H enc base spare held fuel _ x hx
 obtain ⟨b,h3⟩:=hB.2 H enc base spare held fuel cs (by omega) (fun g hg=>h g (by simp [hg]))
 refine ⟨(a,b),fun j c y hj hy=>?_⟩
 by_cases hjn:j < n
 · rw [List.getElem?_append_left (by rw [hA.2.1]; exact hjn)] at hj
   refine h2 j c y hj ?_
   rw [List.getElem?_take_of_lt (by rw [hA.1]; exact hjn),List.getElem?_drop,ho]
   exact hy
 · rw [List.getElem?_append_right (by rw [hA.2.1]; omega),hA.2.1] at hj
   refine h3 (j - n) c y hj ?_
   rw [show off+n+(j - n)=off+j by omega]
   exact hy
theorem zrH {P:Program} {w:World} {t:TypeId} {fs:Array Field} {n:Nat} {T:Type} {nT:T→List AV} (hc:P.cellsOf t=n) (ht:P.underlying t=some (.struct fs)) (hf:RdF P w fs.toList 0 n nT):Rd P w t n nT:=by
 refine ⟨hc,hf.1,fun H enc base spare held fuel cs x h=>?_⟩
 obtain ⟨xs,m,rfl,_,h2,h3,h4⟩:=DataW.trod_struct ht h
 obtain ⟨v,hv⟩:=hf.2 H enc base spare held m cs (by omega) (fun f hfm=>by
  obtain ⟨i,hi,hif⟩:=List.mem_iff_getElem.1 hfm
  have hi':i < fs.size:=by simpa using hi
  have:=h4 i f (by rw [Array.getElem?_eq_getElem hi']; simpa using hif)
  rw [List.getElem?_eq_getElem (by omega)] at this
  exact ⟨_,this⟩)
 exact ⟨v,by omega,by simpa using hv⟩
theorem arg_cell {P:Program} {w:World} {t:TypeId} {T:Type} {f:T→AV} (hr:Rd P w t 1 (fun v=>[f v])) {H:Type} {enc:TypeId×Value→H} {base:Nat} {spare:Nat→Bool} {held:Bool} {y:Value} (hy:y.cells.toList=[y]) {d:DataW H} {ps:List MemPlace}
  (h:DataW.Trod enc P w base spare held t y d ps) {κ:Kap} {D:Nat→Prop}:∃ v:T,VRel (Old w) κ D w (f v) y:=by
 obtain ⟨fuel,hf⟩:=h
 rw [hy] at hf
 obtain ⟨v,_,h2⟩:=hr.2.2 H enc base spare held fuel _ _ hf
 exact ⟨v,.c (h2 0 _ _ rfl rfl).1⟩
theorem arg_agg {P:Program} {w:World} {t:TypeId} {n:Nat} {T:Type} {nT:T→List AV} (hr:Rd P w t n nT) {H:Type} {enc:TypeId×Value→H} {base:Nat} {spare:Nat→Bool} {held:Bool} {vs:Array Value} {d:DataW H} {ps:List MemPlace}
  (h:DataW.Trod enc P w base spare held t (.agg vs) d ps) {κ:Kap} {D:Nat→Prop}:∃ v:T,VRel (Old w) κ D w (.agg (nT v)) (.agg vs):=by
 obtain ⟨fuel,hf⟩:=h
 obtain ⟨v,h1,h2⟩:=hr.2.2 H enc base spare held fuel _ _ hf
 have hvs:(Value.agg vs).cells.toList=vs.toList:=rfl
 rw [hvs] at h1 h2
 have hlen:vs.size=n:=by simpa using h1
 have hl2:=hr.2.1 v
 refine ⟨v,.c (.agg _ _ (by omega) ?_ ?_)⟩
 · intro x hx
   obtain ⟨i,hi,rfl⟩:=Array.mem_iff_getElem.1 hx
   exact (h2 i ((nT v)[i]'(by omega)) _ (List.getElem?_eq_getElem _) (by simp [hi])).2
 · intro j c x hj hx
   exact (h2 j c x hj (by simpa using hx)).1
end Go.Ab
