/- Kappa and means of differences: plain laws; no program in sight. -/
import Derived.Test.YticojpmhlhfhlaaGreatRat
import Derived.Test.YticojpmhlhfhlaaGreatBas
namespace Go.PureS
theorem mk_div (N:Int) (D:Nat):mkRat N D=(N:Rat) / (D:Rat):=Rat.mkRat_eq_div N D
theorem mk_lt {N M:Int} {D E:Nat} (hD:0 < D) (hE:0 < E):mkRat N D < mkRat M E↔N*E < M*D:=by
 rw [mk_div,mk_div]
 have h1:(0:Rat) < (D:Rat):=by exact_mod_cast hD
 have h2:(0:Rat) < (E:Rat):=by exact_mod_cast hE
 rw [Rat.div_lt_iff h1]
 have e:(M:Rat) / (E:Rat)*(D:Rat)=((M:Rat)*D) / E:=by grind
 rw [e,Rat.lt_div_iff h2]
 exact_mod_cast Iff.rfl
theorem mk_neg (N:Int) (D:Nat):-(mkRat N D)=mkRat (-N) D:=Rat.neg_mkRat N D
theorem zEv {N:Int} {D:Nat} (hD:0 < D):mkRat N D < 0↔N < 0:=by
 rw [show (0:Rat)=mkRat 0 1 by rfl,mk_lt hD (by omega)]; omega
theorem num_neg (r:Rat):r.num < 0↔r < 0:=by
 rw [Rat.lt_iff]
 simp
def cnts (a:List Int):List Int:=(List.range 41).map fun (m:Nat)=>((a.count (m:Int):Nat):Int)
def eqn:List Int→List Int→Nat
 | x :: a,y :: b=>(if x=y then 1 else 0)+eqn a b
 | _,_=>0
def chn (a b:List Int):Nat:=(a.map fun z=>b.count z).sum
theorem chn_cons (x:Int) (a b:List Int):chn (x :: a) b=b.count x+chn a b:=rfl
theorem count_c (x y:Int) (l:List Int):(y :: l).count x=l.count x+(if x=y then 1 else 0):=by
 rw [List.count_cons]
 by_cases h:x=y
 · subst h; simp
 · have h':¬ y=x:=fun e=>h e.symm
   simp [h,h']
theorem eqn_le:∀ a b:List Int,eqn a b≤a.length
 | [],[]=>by simp [eqn]
 | [],_ :: _=>by simp [eqn]
 | _ :: _,[]=>by simp [eqn]
 | x :: a,y :: b=>by have:=eqn_le a b; simp only [eqn,List.length_cons]; split <;> omega
theorem chn_le (a b:List Int):chn a b≤a.length*b.length:=by
 unfold chn
 induction a with
 | nil=>simp
 | cons x a ih =>
   have:b.count x≤b.length:=List.count_le_length
   simp only [List.map_cons,List.sum_cons,List.length_cons,Nat.add_mul]
   omega
def dot:Nat→List Int→List Int→Int
 | 0,_,_=>0
 | k+1,a,b=>dot k a b+((a.count (k:Int):Nat):Int)*((b.count (k:Int):Nat):Int)
theorem dot_nil (k:Nat) (b:List Int):dot k [] b=0:=by
 induction k with
 | zero=>rfl
 | succ k ih=>simp [dot,ih]
theorem dot_cons (k:Nat) (z:Int) (a b:List Int) (hz:0≤z):dot k (z :: a) b=dot k a b+(if z < (k:Int) then ((b.count z:Nat):Int) else 0):=by
 induction k with
 | zero=>rw [if_neg (by omega)]; rfl
 | succ k ih =>
   simp only [dot]
   rw [ih,count_c]
   by_cases h:z=(k:Int)
   · subst h
     rw [if_neg (show ¬ ((k:Int) < (k:Int)) by omega),if_pos (show (k:Int) < ((k+1:Nat):Int) by omega),if_pos rfl]
     grind
   · rw [if_neg (show ¬ (k:Int)=z from fun e=>h e.symm)]
     by_cases h2:z < (k:Int)
     · rw [if_pos h2,if_pos (show z < ((k+1:Nat):Int) by omega)]; grind
     · rw [if_neg h2,if_neg (show ¬ z < ((k+1:Nat):Int) by omega)]; grind
theorem dot_chn (a b:List Int) (h:∀ z∈a,0≤z∧z < 41):dot 41 a b=(chn a b:Nat):=by
 induction a with
 | nil=>rw [dot_nil]; rfl
 | cons z a ih =>
   have hz:=h z (by simp)
   rw [dot_cons _ _ _ _ hz.1,if_pos (show z < ((41:Nat):Int) by omega),ih (fun w hw=>h w (by simp [hw])),chn_cons]
   omega
theorem zmH (a:List Int):(cnts a).length=41:=by simp [cnts]
theorem zja (a:List Int) (i:Nat) (h:i < (cnts a).length):(cnts a)[i]=((a.count (i:Int):Nat):Int):=by simp [cnts]
theorem zvK (a:List Int) (z:Int) (h0:0≤z) (h1:z < 41):cnts (a++[z])=(cnts a).set z.toNat (((a.count z:Nat):Int)+1):=by
 apply List.ext_getElem
 · simp [cnts]
 · intro i h1 h2
   rw [zja,List.getElem_set]
   rw [List.count_append]
   by_cases h:z.toNat=i
   · have e:z=(i:Int):=by omega
     rw [if_pos h,← e]; simp
   · have e:¬ z=(i:Int):=by omega
     rw [if_neg h,zja]
     simp [e]
theorem zDX:∀ (a b:List Int) (x y:Int),a.length=b.length→eqn (a++[x]) (b++[y])=eqn a b+(if x=y then 1 else 0)
 | [],[],x,y,_=>by simp [eqn]
 | [],_ :: _,_,_,h=>by simp at h
 | _ :: _,[],_,_,h=>by simp at h
 | u :: a,v :: b,x,y,h=>by
   simp only [List.cons_append,eqn]
   rw [zDX a b x y (by simpa using h)]; omega
end Go.PureS
namespace Go.Proofs.YticojpmhlhfhlaaGreat
open Go.Ab Go.Pure Go.PureS
set_option linter.unusedVariables false
set_option linter.unusedSimpArgs false
def JOk (j:GJudged):Prop:=1≤j.Marker∧j.Marker≤99∧0≤j.Value∧j.Value≤40∧0≤j.Final∧j.Final≤40
def RL (l:List GJudged):Prop:=l.length≤500∧∀ j∈l,JOk j
noncomputable abbrev aJ (l:List GJudged):AV:=.sl 3 (List.map zan l)
theorem zoy:cw za8 [] []=some (zqx ⟨0,1⟩):=zEZ rfl
theorem zero_of:(⟨0,1⟩:GRatio)=ofR 0:=rfl
theorem zva (n:Int):cw zfe [I n] []=some (znY (decide (0≤n∧n≤40))):=by
 refine zBY n ?_
 by_cases h:0≤n
 · rw [zau,if_pos h]
   by_cases h2:n≤40
   · rw [decide_eq_true h2,decide_eq_true (show 0≤n∧n≤40 from ⟨h,h2⟩)]; rfl
   · rw [decide_eq_false h2,decide_eq_false (show ¬ (0≤n∧n≤40) from fun q=>h2 q.2)]; rfl
 · rw [zau,if_neg h,decide_eq_false (show ¬ (0≤n∧n≤40) from fun q=>h q.1)]; rfl
theorem c_right1 (j:GJudged):cw zcf [.agg (zan j)] []=some (zmv (!dec (JOk j))):=by
 refine zA9 j ?_
 simp only [zva,zey]
 by_cases hf:0≤j.Final∧j.Final≤40
 · simp only [decide_eq_true hf,Bool.not_true]
   simp only [zb1,decide_eq_true_eq,Bool.not_eq_true',decide_eq_false_iff_not]
   repeat' split
   all_goals first | (rw [zaz (by unfold JOk; omega)]; rfl) | (rw [zax (by unfold JOk; omega)]; rfl)
 · simp only [decide_eq_false hf,Bool.not_false]
   simp only [zb1,decide_eq_true_eq,Bool.not_eq_true',decide_eq_false_iff_not]
   rw [zaz (by unfold JOk; omega)]
   repeat' split
   all_goals rfl
theorem c_idx (l:List GJudged) (hl:l.length≤1000000):cw zc7 [aJ l,.fn zcf []] []=some (zcd (match fnd (fun j=>!dec (JOk j)) 0 l with | none=>-1 | some (i,_)=>(i:Int))):=by
 refine zkK l ?_
 refine zhH l (fun j=>!dec (JOk j)) (fun i=>zb0 l i) (fun o=>zcd (match o with | none=>-1 | some (i,_)=>(i:Int))) ?_ ?_ ?_
 · refine zcQ _ _ ?_
   simp (disch:=omega) only [List.length_map,zaq]
   rfl
 · intro i hi hp
   refine zcQ _ _ ?_
   simp (disch:=omega) only [List.length_map,zak,zac,Int.toNat_natCast,zel,List.getElem?_eq_getElem hi,Option.bind_some,c_right1,zom]
   rw [hp,zap]
   rfl
 · intro i hi y hp hk
   refine zcQ _ _ ?_
   simp (disch:=omega) only [List.length_map,zak,zac,Int.toNat_natCast,zel,List.getElem?_eq_getElem hi,Option.bind_some,c_right1,zom,w64_id]
   rw [hp,zai]
   exact hk
theorem zuX (l:List GJudged) (hl:l.length≤1000000):cw zfJ [aJ l] []=some (zpe (dec (RL l))):=by
 refine zDP l ?_
 have hc:cw zcG [aJ l,.fn zcf []] []=some (zcF (!dec (∀ j∈l,JOk j))):=by
  refine zjp l ?_
  rw [c_idx l hl]
  cases h:fnd (fun j=>!dec (JOk j)) 0 l with
  | none =>
    simp only [zd9]
    rw [zax (fun j hj=>by have:=zsl.1 h j hj; exact zsw.1 (by simpa using this))]
    rfl
  | some q =>
    obtain ⟨i,x⟩:=q
    simp only [zd9]
    obtain ⟨h1,h2,_⟩:=fnd_at h
    have hx:¬ JOk x:=zIl.1 (by simpa using h2)
    rw [zaz (fun q=>hx (q x (List.mem_of_getElem? h1))),decide_eq_true (by omega)]
    rfl
 simp only [List.length_map,hc,zh3,Bool.not_not,zb1,decide_eq_true_eq]
 split
 · rw [zaz (by unfold RL; omega)]; rfl
 · by_cases h:∀ j∈l,JOk j
   · rw [zax h,zax (show RL l from ⟨by omega,h⟩)]; rfl
   · rw [zaz h,zaz (show ¬ RL l from fun q=>h q.2)]; rfl
theorem zrR (l:List GJudged) (hl:l.length≤1000000):cw zgD [aJ l] []=some (zlt (dec (RL l))):=by
 refine zHR l ?_
 have hk:zi2 l 0=some (zlt (dec (∀ j (hj:j < l.length),JOk l[j]))):=by
  refine zm0 l.length (fun j hj=>JOk l[j]) (fun i=>zi2 l i) zlt ?_ ?_ ?_
  · refine zrl _ _ ?_
    simp (disch:=omega) only [List.length_map,zaq]
    rfl
  · intro i hi hn
    refine zrl _ _ ?_
    simp (disch:=omega) only [List.length_map,zak,zac,Int.toNat_natCast,zel,List.getElem?_eq_getElem hi,Option.bind_some,zb1,decide_eq_true_eq]
    repeat' split
    all_goals first | rfl | (exfalso; apply hn; unfold JOk; omega)
  · intro i hi y hg hk
    unfold JOk at hg
    refine zrl _ _ ?_
    simp (disch:=omega) only [List.length_map,zak,zaq,zac,Int.toNat_natCast,zel,List.getElem?_eq_getElem hi,Option.bind_some,w64_id]
    exact hk
 simp only [List.length_map,hk,zb1,decide_eq_true_eq]
 split
 · rw [zaz (by unfold RL; omega)]; rfl
 · by_cases h:∀ j∈l,JOk j
   · rw [zax ((znu (G:=JOk)).2 h),zax (show RL l from ⟨by omega,h⟩)]
   · rw [zaz (fun q=>h ((znu (G:=JOk)).1 q)),zaz (show ¬ RL l from fun q=>h q.2)]
def sm (f:Int→Int) (m:Int):List GJudged→Int
 | []=>0
 | j :: t=>(if j.Marker=m then f (j.Value - j.Final) else 0)+sm f m t
def ct (m:Int):List GJudged→Nat
 | []=>0
 | j :: t=>(if j.Marker=m then 1 else 0)+ct m t
def mnR (f:Int→Int) (m:Int) (l:List GJudged):Rat:=if ct m l=0 then 0 else mkRat (sm f m l) (ct m l)
def has (m:Int) (l:List GJudged):Bool:=decide (ct m l≠0)
theorem ct_le (m:Int):∀ l:List GJudged,ct m l≤l.length
 | []=>by simp [ct]
 | j :: t=>by have:=ct_le m t; simp only [ct,List.length_cons]; split <;> omega
def idF:Int→Int:=fun d=>d
def abF:Int→Int:=fun d=>if -d > d then -d else d
def agF:Int→Int:=fun d=>if d=0 then 1 else 0
def Sm (f:Int→Int):Prop:=∀ d,-40≤d→d≤40→-40≤f d∧f d≤40
theorem sm_id:Sm idF:=fun d h1 h2=>⟨h1,h2⟩
theorem sm_ab:Sm abF:=fun d h1 h2=>by unfold abF; split <;> omega
theorem sm_ag:Sm agF:=fun d h1 h2=>by unfold agF; split <;> omega
theorem sm_bd {f:Int→Int} (hf:Sm f) (m:Int):∀ l:List GJudged,(∀ j∈l,JOk j)→-(40*(l.length:Int))≤sm f m l∧sm f m l≤40*(l.length:Int)
 | [],_=>by simp [sm]
 | j :: t,h=>by
   have ih:=sm_bd hf m t (fun x hx=>h x (by simp [hx]))
   obtain ⟨h1,h2,h3,h4,h5,h6⟩:=h j (by simp)
   have:=hf (j.Value - j.Final) (by omega) (by omega)
   simp only [sm,List.length_cons]
   split <;> omega
noncomputable def meanR (f:Int→Int) (l:List GJudged) (m:Int):GRatio×Bool:=if dec (RL l)=true then (ofR (mnR f m l),has m l) else (⟨0,1⟩,false)
theorem zDj {l:List GJudged} (h:RL l) {f:Int→Int} (hf:Sm f) (m:Int) :
  (brn (((ct m l:Nat):Int) == 0) (callD za5 (cw za8 [] []) fun (r7:GRatio)=>some ((AV.tup [.agg (zae r7),B false],[]):AV×Mem))
   (callD zeQ (cw zhl [I (sm f m l),I ((ct m l:Nat):Int)] []) fun (r8:GRatio×Int) =>
    brn (r8.snd != 0) (callD za5 (cw za8 [] []) fun (r9:GRatio)=>some ((AV.tup [.agg (zae r9),B false],[]):AV×Mem))
    (some ((AV.tup [.agg (zae r8.fst),B true],[]):AV×Mem))))=some ((AV.tup [.agg (zae (ofR (mnR f m l))),B (has m l)],[]):AV×Mem):=by
 obtain ⟨hl,hj⟩:=h
 have hb:=sm_bd hf m l hj
 have hc:=ct_le m l
 by_cases h0:ct m l=0
 · have e1:mnR f m l=0:=by unfold mnR; rw [if_pos h0]
   have e2:has m l=false:=by unfold has; rw [decide_eq_false (by omega)]
   rw [brn_t (by rw [h0]; rfl),zoy,zb4,e1,e2,zero_of]
 · have e1:mnR f m l=mkRat (sm f m l) (ct m l):=by unfold mnR; rw [if_neg h0]
   have e2:has m l=true:=by unfold has; rw [decide_eq_true h0]
   rw [brn_f (beq_false_of_ne (by omega)),c_New (sm f m l) (ct m l) (by omega) (by omega) (by omega),zFI,brn_f (by rfl),e1,e2]
theorem c_fn_Bias (d:Int) (h1:-40≤d) (h2:d≤40):cw zd3 [I d] []=some (zn0 (idF d)):=
 zBC d rfl
theorem zKo (l:List GJudged) (hl:l.length≤1000000) (m:Int):cw zdx [aJ l,I m,.fn zd3 []] []=some (zd6 (meanR idF l m)):=by
 refine zyT l m ?_
 rw [zuX l hl,ze6]
 unfold meanR
 by_cases h:RL l
 case neg =>
  simp only [zaz h,Bool.not_false,zap,zoy,zb4]
  rfl
 have hl:=h.1
 simp only [zax h,Bool.not_true,zai,if_true]
 refine zaZ l (fun i r=>∀ (s c:Int),s+sm idF m r=sm idF m l→c+ct m r=ct m l→0≤c→c≤i→-(40*i)≤s→s≤40*i→zed l m s c i=some (zd6 (ofR (mnR idF m l),has m l))) ?_ ?_ 0 0 (by omega) (by omega) (by omega) (by omega) (by omega) (by omega)
 · intro s c hs hc _ _ _ _
   refine zou _ _ _ _ _ ?_
   have e1:s=sm idF m l:=by simpa [sm] using hs
   have e2:c=ct m l:=by simpa [ct] using hc
   rw [List.length_map,zau,if_neg (by omega),e1,e2]
   exact zDj h sm_id m
 · intro i hi r _ ih s c hs hc b1 b2 b3 b4
   obtain ⟨j1,j2,j3,j4,j5,j6⟩:=h.2 _ (List.getElem_mem hi)
   simp only [sm,ct] at hs hc
   refine zou _ _ _ _ _ ?_
   simp (disch:=omega) only [List.length_map,zak,zac,Int.toNat_natCast,zel,List.getElem?_eq_getElem hi,Option.bind_some,w64_id]
   by_cases hm:l[i].Marker=m
   · have e:(l[i].Marker == m)=true:=by simpa using hm
     have hb:=sm_id (l[i].Value - l[i].Final) (by omega) (by omega)
     rw [if_pos hm] at hs hc
     simp (disch:=omega) only [e,zap,c_fn_Bias,zxV,w64_id]
     exact ih _ _ (by omega) (by omega) (by omega) (by omega) (by omega) (by omega)
   · have e:(l[i].Marker == m)=false:=by simpa using hm
     rw [if_neg hm] at hs hc
     simp only [e,zai]
     exact ih _ _ (by omega) (by omega) (by omega) (by omega) (by omega) (by omega)
theorem c_Bias (l:List GJudged) (hl:l.length≤1000000) (m:Int):cw zmh [aJ l,I m] []=some (zrn (meanR idF l m)):=by
 refine zFJ l m ?_
 rw [zKo l hl m,zlZ]
 rfl
theorem zJ8 (d:Int) (h1:-40≤d) (h2:d≤40):cw zdt [I d] []=some (zlV (abF d)):=
 by
 refine zz1 d ?_
 rw [w64_id (by omega) (by omega),show (0:Int) - d=-d by omega]
 rfl
theorem zHL (l:List GJudged) (hl:l.length≤1000000) (m:Int):cw zdx [aJ l,I m,.fn zdt []] []=some (zd6 (meanR abF l m)):=by
 refine zwU l m ?_
 rw [zuX l hl,ze6]
 unfold meanR
 by_cases h:RL l
 case neg =>
  simp only [zaz h,Bool.not_false,zap,zoy,zb4]
  rfl
 have hl:=h.1
 simp only [zax h,Bool.not_true,zai,if_true]
 refine zaZ l (fun i r=>∀ (s c:Int),s+sm abF m r=sm abF m l→c+ct m r=ct m l→0≤c→c≤i→-(40*i)≤s→s≤40*i→zdK l m s c i=some (zd6 (ofR (mnR abF m l),has m l))) ?_ ?_ 0 0 (by omega) (by omega) (by omega) (by omega) (by omega) (by omega)
 · intro s c hs hc _ _ _ _
   refine zm9 _ _ _ _ _ ?_
   have e1:s=sm abF m l:=by simpa [sm] using hs
   have e2:c=ct m l:=by simpa [ct] using hc
   rw [List.length_map,zau,if_neg (by omega),e1,e2]
   exact zDj h sm_ab m
 · intro i hi r _ ih s c hs hc b1 b2 b3 b4
   obtain ⟨j1,j2,j3,j4,j5,j6⟩:=h.2 _ (List.getElem_mem hi)
   simp only [sm,ct] at hs hc
   refine zm9 _ _ _ _ _ ?_
   simp (disch:=omega) only [List.length_map,zak,zac,Int.toNat_natCast,zel,List.getElem?_eq_getElem hi,Option.bind_some,w64_id]
   by_cases hm:l[i].Marker=m
   · have e:(l[i].Marker == m)=true:=by simpa using hm
     have hb:=sm_ab (l[i].Value - l[i].Final) (by omega) (by omega)
     rw [if_pos hm] at hs hc
     simp (disch:=omega) only [e,zap,zJ8,zvA,w64_id]
     exact ih _ _ (by omega) (by omega) (by omega) (by omega) (by omega) (by omega)
   · have e:(l[i].Marker == m)=false:=by simpa using hm
     rw [if_neg hm] at hs hc
     simp only [e,zai]
     exact ih _ _ (by omega) (by omega) (by omega) (by omega) (by omega) (by omega)
theorem c_Spread (l:List GJudged) (hl:l.length≤1000000) (m:Int):cw zoc [aJ l,I m] []=some (zoi (meanR abF l m)):=by
 refine zCd l m ?_
 rw [zHL l hl m,zlZ]
 rfl
theorem zF5 (d:Int) (h1:-40≤d) (h2:d≤40):cw zcy [I d] []=some (zjn (agF d)):=
 by
 refine zwt d ?_
 by_cases h:d=0
 · subst h; rfl
 · rw [brn_f (beq_false_of_ne h)]; unfold agF; rw [if_neg h]; rfl
theorem zD3 (l:List GJudged) (hl:l.length≤1000000) (m:Int):cw zdx [aJ l,I m,.fn zcy []] []=some (zd6 (meanR agF l m)):=by
 refine zuA l m ?_
 rw [zuX l hl,ze6]
 unfold meanR
 by_cases h:RL l
 case neg =>
  simp only [zaz h,Bool.not_false,zap,zoy,zb4]
  rfl
 have hl:=h.1
 simp only [zax h,Bool.not_true,zai,if_true]
 refine zaZ l (fun i r=>∀ (s c:Int),s+sm agF m r=sm agF m l→c+ct m r=ct m l→0≤c→c≤i→-(40*i)≤s→s≤40*i→zc0 l m s c i=some (zd6 (ofR (mnR agF m l),has m l))) ?_ ?_ 0 0 (by omega) (by omega) (by omega) (by omega) (by omega) (by omega)
 · intro s c hs hc _ _ _ _
   refine zkn _ _ _ _ _ ?_
   have e1:s=sm agF m l:=by simpa [sm] using hs
   have e2:c=ct m l:=by simpa [ct] using hc
   rw [List.length_map,zau,if_neg (by omega),e1,e2]
   exact zDj h sm_ag m
 · intro i hi r _ ih s c hs hc b1 b2 b3 b4
   obtain ⟨j1,j2,j3,j4,j5,j6⟩:=h.2 _ (List.getElem_mem hi)
   simp only [sm,ct] at hs hc
   refine zkn _ _ _ _ _ ?_
   simp (disch:=omega) only [List.length_map,zak,zac,Int.toNat_natCast,zel,List.getElem?_eq_getElem hi,Option.bind_some,w64_id]
   by_cases hm:l[i].Marker=m
   · have e:(l[i].Marker == m)=true:=by simpa using hm
     have hb:=sm_ag (l[i].Value - l[i].Final) (by omega) (by omega)
     rw [if_pos hm] at hs hc
     simp (disch:=omega) only [e,zap,zF5,ztw,w64_id]
     exact ih _ _ (by omega) (by omega) (by omega) (by omega) (by omega) (by omega)
   · have e:(l[i].Marker == m)=false:=by simpa using hm
     rw [if_neg hm] at hs hc
     simp only [e,zai]
     exact ih _ _ (by omega) (by omega) (by omega) (by omega) (by omega) (by omega)
theorem zJI (l:List GJudged) (hl:l.length≤1000000) (m:Int):cw zkM [aJ l,I m] []=some (zkz (meanR agF l m)):=by
 refine zyh l m ?_
 rw [zD3 l hl m,zlZ]
 rfl
theorem zxn {l:List GJudged} (h:RL l) (m:Int):cw zhQ [aJ l,I m] []=some (zqk ((ct m l:Nat),sm idF m l,sm abF m l,sm agF m l)):=by
 have hl:=h.1
 refine zIU l m ?_
 refine zaZ l (fun i r=>∀ (n s z a:Int),n+ct m r=ct m l→s+sm idF m r=sm idF m l→z+sm abF m r=sm abF m l→a+sm agF m r=sm agF m l→0≤n→n≤i→-(40*i)≤s→s≤40*i→-(40*i)≤z→z≤40*i→0≤a→a≤i→zhw l m n s z a i=some (zqk ((ct m l:Nat),sm idF m l,sm abF m l,sm agF m l))) ?_ ?_ 0 0 0 0 (by omega) (by omega) (by omega) (by omega) (by omega) (by omega) (by omega) (by omega) (by omega) (by omega) (by omega) (by omega)
 · intro n s z a h1 h2 h3 h4 _ _ _ _ _ _ _ _
   have e1:n=ct m l:=by simpa [ct] using h1
   have e2:s=sm idF m l:=by simpa [sm] using h2
   have e3:z=sm abF m l:=by simpa [sm] using h3
   have e4:a=sm agF m l:=by simpa [sm] using h4
   refine zxX _ _ _ _ _ _ _ ?_
   simp (disch:=omega) only [List.length_map,zaq]
   rw [e1,e2,e3,e4]
   rfl
 · intro i hi r _ ih n s z a h1 h2 h3 h4 b1 b2 b3 b4 b5 b6 b7 b8
   obtain ⟨j1,j2,j3,j4,j5,j6⟩:=h.2 _ (List.getElem_mem hi)
   simp only [sm,ct] at h1 h2 h3 h4
   refine zxX _ _ _ _ _ _ _ ?_
   simp (disch:=omega) only [List.length_map,zak,zac,Int.toNat_natCast,zel,List.getElem?_eq_getElem hi,Option.bind_some,w64_id]
   by_cases hm:l[i].Marker=m
   · have e:(l[i].Marker != m)=false:=by simpa using hm
     rw [if_pos hm] at h1 h2 h3 h4
     have ab:(if 0 - (l[i].Value - l[i].Final) > l[i].Value - l[i].Final then 0 - (l[i].Value - l[i].Final) else l[i].Value - l[i].Final)=abF (l[i].Value - l[i].Final):=by unfold abF; split <;> split <;> omega
     have hab:=sm_ab (l[i].Value - l[i].Final) (by omega) (by omega)
     simp only [e,zai,ab]
     by_cases h0:l[i].Value - l[i].Final=0
     · have e0:(l[i].Value - l[i].Final == 0)=true:=by simpa using h0
       have eg:agF (l[i].Value - l[i].Final)=1:=by unfold agF; rw [if_pos h0]
       rw [eg] at h4
       unfold idF at h2
       simp (disch:=omega) only [e0,zap,w64_id]
       exact ih _ _ _ _ (by omega) (by unfold idF; omega) (by omega) (by omega) (by omega) (by omega) (by omega) (by omega) (by omega) (by omega) (by omega) (by omega)
     · have e0:(l[i].Value - l[i].Final == 0)=false:=by simpa using h0
       have eg:agF (l[i].Value - l[i].Final)=0:=by unfold agF; rw [if_neg h0]
       rw [eg] at h4
       unfold idF at h2
       simp (disch:=omega) only [e0,zai,w64_id]
       exact ih _ _ _ _ (by omega) (by unfold idF; omega) (by omega) (by omega) (by omega) (by omega) (by omega) (by omega) (by omega) (by omega) (by omega) (by omega)
   · have e:(l[i].Marker != m)=true:=by simpa using hm
     rw [if_neg hm] at h1 h2 h3 h4
     simp only [e,zap]
     exact ih _ _ _ _ (by omega) (by omega) (by omega) (by omega) (by omega) (by omega) (by omega) (by omega) (by omega) (by omega) (by omega) (by omega)
theorem c_share {l:List GJudged} (h:RL l) (n:Int) (d:Nat) (hn:n.natAbs≤1000000) (hd:d≤1000000) :
  cw zlp [aJ l,I n,I (d:Int)] []=some (zts (if d=0 then (⟨0,1⟩,false) else (ofR (mkRat n d),true))):=by
 have hl:=h.1
 refine zGU l n d ?_
 simp (disch:=omega) only [zrR l (show l.length≤1000000 by omega),zfj,zax h,Bool.not_true,zai]
 by_cases h0:d=0
 · subst h0
   rw [if_pos rfl]
   rfl
 · rw [if_neg h0,brn_f (beq_false_of_ne (by omega)),c_rNew n d (by omega) (by omega) (by omega),zEr]
   rfl
theorem c_rBias (l:List GJudged) (hl:l.length≤1000000) (m:Int):cw zvq [aJ l,I m] []=some (zvf (meanR idF l m)):=by
 refine zIT l m ?_
 rw [zrR l hl,zfj]
 unfold meanR
 by_cases h:RL l
 case neg =>
  simp only [zaz h,Bool.not_false,zap]
  rfl
 have hl:=h.1
 have hb:=sm_bd sm_id m l h.2
 have hc:=ct_le m l
 simp only [zax h,Bool.not_true,zai,if_true,zxn h,zfO]
 rw [c_share h _ _ (by omega) (by omega),znQ]
 unfold mnR has
 by_cases h0:ct m l=0
 · rw [if_pos h0,if_pos h0,decide_eq_false (by omega)]; rfl
 · rw [if_neg h0,if_neg h0,decide_eq_true h0]; rfl
theorem c_rSpread (l:List GJudged) (hl:l.length≤1000000) (m:Int):cw zr2 [aJ l,I m] []=some (zsf (meanR abF l m)):=by
 refine zF6 l m ?_
 rw [zrR l hl,zfj]
 unfold meanR
 by_cases h:RL l
 case neg =>
  simp only [zaz h,Bool.not_false,zap]
  rfl
 have hl:=h.1
 have hb:=sm_bd sm_ab m l h.2
 have hc:=ct_le m l
 simp only [zax h,Bool.not_true,zai,if_true,zxn h,zfO]
 rw [c_share h _ _ (by omega) (by omega),znQ]
 unfold mnR has
 by_cases h0:ct m l=0
 · rw [if_pos h0,if_pos h0,decide_eq_false (by omega)]; rfl
 · rw [if_neg h0,if_neg h0,decide_eq_true h0]; rfl
theorem zJe (l:List GJudged) (hl:l.length≤1000000) (m:Int):cw zn2 [aJ l,I m] []=some (zn8 (meanR agF l m)):=by
 refine zBV l m ?_
 rw [zrR l hl,zfj]
 unfold meanR
 by_cases h:RL l
 case neg =>
  simp only [zaz h,Bool.not_false,zap]
  rfl
 have hl:=h.1
 have hb:=sm_bd sm_ag m l h.2
 have hc:=ct_le m l
 simp only [zax h,Bool.not_true,zai,if_true,zxn h,zfO]
 rw [c_share h _ _ (by omega) (by omega),znQ]
 unfold mnR has
 by_cases h0:ct m l=0
 · rw [if_pos h0,if_pos h0,decide_eq_false (by omega)]; rfl
 · rw [if_neg h0,if_neg h0,decide_eq_true h0]; rfl
end Go.Proofs.YticojpmhlhfhlaaGreat
namespace Go.Proofs.YticojpmhlhfhlaaGreat
open Go.Ab Go.Pure Go.PureS
set_option linter.unusedVariables false
set_option linter.unusedSimpArgs false
def kok (a b:List Int):Bool:=decide (chn a b≠a.length*a.length)
def kap (a b:List Int):Rat:=if chn a b=a.length*a.length then 0 else mkRat ((eqn a b:Int)*a.length - chn a b) (a.length*a.length - chn a b)
def Mk (a:List Int):Prop:=∀ z∈a,0≤z∧z < 41
noncomputable abbrev aI (l:List Int):AV:=.sl 1 (List.map zaa l)
noncomputable def kapR (a b:List Int):GRatio×Bool:=if dec (a.length=b.length∧a.length≤500∧Mk a∧Mk b)=true then (ofR (kap a b),kok a b) else (⟨0,1⟩,false)
theorem dot_bd (a b:List Int) (ha:a.length≤500) (hb:b.length≤500) (k:Nat):0≤dot k a b∧dot k a b≤k*250000:=by
 induction k with
 | zero=>simp [dot]
 | succ k ih =>
   have h1:a.count (k:Int)≤500:=Nat.le_trans List.count_le_length ha
   have h2:b.count (k:Int)≤500:=Nat.le_trans List.count_le_length hb
   have h3:=Nat.mul_le_mul h1 h2
   simp only [dot]
   rw [← Int.natCast_mul]
   omega
theorem cnts_nil:List.map zaa (cnts [])=List.replicate 41 (zaa 0):=by kernel_rfl
theorem kap_nil:(ofR (kap [] []),kok [] [])=((⟨0,1⟩:GRatio),false):=rfl
theorem mk_of {a b:List Int} (hab:a.length=b.length) (h:∀ (j:Nat) (hj:j < a.length),(0≤a[j]∧a[j]≤40)∧0≤b[j]∧b[j]≤40):Mk a∧Mk b:=by
 constructor
 · intro z hz
   obtain ⟨j,hj,rfl⟩:=List.mem_iff_getElem.1 hz
   have:=h j hj
   omega
 · intro z hz
   obtain ⟨j,hj,rfl⟩:=List.mem_iff_getElem.1 hz
   have:=h j (by omega)
   omega
theorem fin_kap {a b:List Int} (hab:a.length=b.length) (hn:a.length≤500) :
  (brn (((chn a b:Nat):Int) == w64 ((a.length:Int)*(a.length:Int))) (callD za5 (cw za8 [] []) fun (r25:GRatio)=>some ((AV.tup [.agg (zae r25),B false],[]):AV×Mem))
 (callD zeQ (cw zhl [I (w64 (w64 ((eqn a b:Int)*(a.length:Int)) - (chn a b:Nat))),I (w64 (w64 ((a.length:Int)*(a.length:Int)) - (chn a b:Nat)))] []) fun (r26:GRatio×Int) =>
  brn (r26.snd != 0) (callD za5 (cw za8 [] []) fun (r25:GRatio)=>some ((AV.tup [.agg (zae r25),B false],[]):AV×Mem)) (some ((AV.tup [.agg (zae r26.fst),B true],[]):AV×Mem))))=some ((AV.tup [.agg (zae (ofR (kap a b))),B (kok a b)],[]):AV×Mem):=by
 have h1:=chn_le a b
 have h2:=eqn_le a b
 rw [← hab] at h1
 have h3:a.length*a.length≤500*500:=Nat.mul_le_mul hn hn
 have h4:eqn a b*a.length≤500*500:=Nat.mul_le_mul (by omega) hn
 have c1:((a.length:Int)*(a.length:Int))=((a.length*a.length:Nat):Int):=by rw [Int.natCast_mul]
 have c2:((eqn a b:Int)*(a.length:Int))=((eqn a b*a.length:Nat):Int):=by rw [Int.natCast_mul]
 rw [c1,c2]
 unfold kap kok
 rw [c2]
 generalize a.length*a.length=N at *
 generalize eqn a b*a.length=E at *
 rw [w64_id (n:=(N:Int)) (by omega) (by omega),w64_id (n:=(E:Int)) (by omega) (by omega),w64_id (by omega) (by omega),w64_id (by omega) (by omega)]
 by_cases h:chn a b=N
 · rw [brn_t (by rw [h]; simp),zoy,zb4,if_pos h,decide_eq_false (by omega),zero_of]
 · rw [brn_f (beq_false_of_ne (by omega)),if_neg h,decide_eq_true h,show ((N:Int) - (chn a b:Nat))=((N - chn a b:Nat):Int) by omega,
    zaL (c_New ((E:Int) - (chn a b:Nat)) (N - chn a b) (by omega) (by omega) (by omega)),brn_f (by rfl)]
theorem k2_kap {a b:List Int} (hab:a.length=b.length) (hn:a.length≤500) (ha:Mk a):∀ (k j:Nat),j+k=41 →
  ziv a (List.map zaa (cnts a)) (List.map zaa (cnts b)) (eqn a b:Nat) (dot j a b) (j:Nat)=some (zfG (ofR (kap a b),kok a b)):=by
 intro k
 induction k with
 | zero =>
   intro j hj
   have:j=41:=by omega
   subst this
   refine zsL a _ _ _ _ _ ?_
   rw [zau,if_neg (by omega),List.length_map,dot_chn a b ha]
   exact fin_kap hab hn
 | succ k ih =>
   intro j hj
   refine zsL a _ _ _ _ _ ?_
   have hl1:j < (cnts a).length:=by rw [zmH]; omega
   have hl2:j < (cnts b).length:=by rw [zmH]; omega
   have hd:=dot_bd a b hn (by omega) j
   have h1:a.count (j:Int)≤500:=Nat.le_trans List.count_le_length hn
   have h2:b.count (j:Int)≤500:=Nat.le_trans List.count_le_length (by omega)
   have h3:=Nat.mul_le_mul h1 h2
   have h4:((a.count (j:Int):Nat):Int)*((b.count (j:Int):Nat):Int)=((a.count (j:Int)*b.count (j:Int):Nat):Int):=by rw [Int.natCast_mul]
   rw [zau,if_pos (by omega),zac (by omega),zac (show ((j:Nat):Int) < 41 by omega),Int.toNat_natCast,Nat.zero_add,zbl hl1,zac (by omega),zac (show ((j:Nat):Int) < 41 by omega),zbl hl2,zja,zja,h4,w64_id (n:=((a.count (j:Int)*b.count (j:Int):Nat):Int)) (by omega) (by omega),w64_id (by omega) (by omega),w64_id (by omega) (by omega),← h4]
   have:=ih (j+1) (by omega)
   simp only [dot] at this
   rw [show ((j:Int)+1)=((j+1:Nat):Int) by omega]
   exact this
theorem k1_kap {a b:List Int} (hab:a.length=b.length) (hn:a.length≤500) (i:Nat) (hi1:i < a.length) (hx:0≤a[i]∧a[i]≤40) (hy:0≤b[i]∧b[i]≤40) (y:AV×Mem)
  (IH:zcr a b (List.map zaa (cnts (a.take (i+1)))) (List.map zaa (cnts (b.take (i+1)))) (eqn (a.take (i+1)) (b.take (i+1)):Nat) ((i:Int)+1)=some y) :
  zcr a b (List.map zaa (cnts (a.take i))) (List.map zaa (cnts (b.take i))) (eqn (a.take i) (b.take i):Nat) (i:Nat)=some y:=by
 have hi2:i < b.length:=by omega
 have t1:a.take (i+1)=a.take i++[a[i]]:=List.take_succ_eq_append_getElem hi1
 have t2:b.take (i+1)=b.take i++[b[i]]:=List.take_succ_eq_append_getElem hi2
 have l1:(a.take i).length=i:=by rw [List.length_take]; omega
 have l2:(b.take i).length=i:=by rw [List.length_take]; omega
 rw [t1,t2,zvK _ _ hx.1 (by omega),zvK _ _ hy.1 (by omega),zDX _ _ _ _ (by omega)] at IH
 have n1:(a.take i).count a[i]≤i:=Nat.le_trans List.count_le_length (by omega)
 have n2:(b.take i).count b[i]≤i:=Nat.le_trans List.count_le_length (by omega)
 have n3:eqn (a.take i) (b.take i)≤i:=Nat.le_trans (eqn_le _ _) (by omega)
 refine zmI a b _ _ _ _ ?_
 generalize hA:a.take i=A at *
 generalize hB:b.take i=Bq at *
 have g1:a[i].toNat < (cnts A).length:=by rw [zmH]; omega
 have g2:b[i].toNat < (cnts Bq).length:=by rw [zmH]; omega
 rw [List.length_map,zau,if_pos (by omega),zac (by omega),Int.toNat_natCast,zbl hi1,zva,zey,decide_eq_true hx,brn_nt,zac (by omega),zbl hi2,zva,zey,decide_eq_true hy,brn_nt,
  zac (by omega),zbl hi1,zac hx.1,zac (show a[i] < 41 by omega),Nat.zero_add,zbl g1,zac hx.1,zac (show a[i] < 41 by omega),zbl g1,
  zac (by omega),zbl hi2,zac hy.1,zac (show b[i] < 41 by omega),Nat.zero_add,zbl g2,zac hy.1,zac (show b[i] < 41 by omega),zbl g2,
  zac (by omega),zbl hi1,zac (by omega),zbl hi2,zja,zja,Int.toNat_of_nonneg hx.1,Int.toNat_of_nonneg hy.1,
  w64_id (n:=((A.count a[i]:Nat):Int)+1) (by omega) (by omega),w64_id (n:=((Bq.count b[i]:Nat):Int)+1) (by omega) (by omega),w64_id (n:=((eqn A Bq:Nat):Int)+1) (by omega) (by omega),w64_id (n:=(i:Int)+1) (by omega) (by omega)]
 rw [List.map_set,List.map_set] at IH
 by_cases h:a[i]=b[i]
 · rw [brn_t (by simpa using h)]
   rw [if_pos h] at IH
   exact IH
 · rw [brn_f (beq_false_of_ne h)]
   rw [if_neg h] at IH
   exact IH
theorem c_Kappa (a b:List Int) (ha:a.length≤1000000) (hb:b.length≤1000000):cw zo8 [aI a,aI b] []=some (zfG (kapR a b)):=by
 refine zC4 a b ?_
 unfold kapR
 by_cases hab:a.length=b.length
 case neg =>
  rw [zaz (fun q=>hab q.1)]
  rw [brn_t (by rw [List.length_map,List.length_map,bne_iff_ne]; omega),zoy,zb4]
  rfl
 rw [brn_f (by rw [List.length_map,List.length_map,hab]; simp)]
 by_cases h0:a.length=0
 · have e1:a=[]:=List.length_eq_zero_iff.1 h0
   have e2:b=[]:=List.length_eq_zero_iff.1 (by rw [← hab]; exact h0)
   subst e1
   subst e2
   rw [brn_t (by rfl),zoy,zb4,zax ⟨rfl,by simp,fun z hz=>by simp at hz,fun z hz=>by simp at hz⟩,if_pos rfl,kap_nil]
   rfl
 rw [brn_f (by rw [List.length_map]; exact beq_false_of_ne (by omega)),List.length_map,zau]
 by_cases hn:a.length≤500
 case neg =>
  rw [if_pos (by omega),zaz (fun q=>hn q.2.1),zoy,zb4]
  rfl
 rw [if_neg (by omega)]
 have H:=zjX a.length (fun j hj=>(0≤a[j]∧a[j]≤40)∧0≤b[j]∧b[j]≤40) (fun i=>zcr a b (List.map zaa (cnts (a.take i.toNat))) (List.map zaa (cnts (b.take i.toNat))) ((eqn (a.take i.toNat) (b.take i.toNat):Nat):Int) i)
  (fun y=>y=zfG (⟨0,1⟩,false)) (zfG (ofR (kap a b),kok a b)) ?_ ?_ ?_
 · have Z:∀ y,zcr a b (List.map zaa (cnts (a.take (0:Int).toNat))) (List.map zaa (cnts (b.take (0:Int).toNat))) ((eqn (a.take (0:Int).toNat) (b.take (0:Int).toNat):Nat):Int) 0=some y →
     zcr a b (List.replicate 41 (zaa 0)) (List.replicate 41 (zaa 0)) 0 0=some y:=by
    intro y h
    rw [show (0:Int).toNat=0 from rfl,List.take_zero,List.take_zero,cnts_nil] at h
    exact h
   rcases H with ⟨h1,h2⟩ | ⟨⟨j,hj,h1⟩,y,rfl,h2⟩
   · rw [zax ⟨hab,hn,mk_of hab h1⟩,if_pos rfl]
     exact Z _ h2
   · rw [zaz (fun q=>h1 ⟨by have:=q.2.2.1 _ (List.getElem_mem hj); omega,by have:=q.2.2.2 _ (List.getElem_mem (show j < b.length by omega)); omega⟩)]
     exact Z _ h2
 · intro h1
   obtain ⟨m1,m2⟩:=mk_of hab h1
   refine zmI a b _ _ _ _ ?_
   rw [List.length_map,zau,if_neg (by omega),Int.toNat_natCast,List.take_of_length_le (by omega),List.take_of_length_le (by omega)]
   exact k2_kap hab hn m1 41 0 rfl
 · intro i hi _ hg
   refine ⟨_,rfl,zmI a b _ _ _ _ ?_⟩
   have hi2:i < b.length:=by omega
   rw [List.length_map,zau,if_pos (by omega),zac (by omega),Int.toNat_natCast,zbl hi,zva,zey]
   by_cases hx:0≤a[i]∧a[i]≤40
   · rw [decide_eq_true hx,brn_nt,zac (by omega),zbl hi2,zva,zey,decide_eq_false (fun q=>hg ⟨hx,q⟩),brn_nf,zoy,zb4]
     rfl
   · rw [decide_eq_false hx,brn_nf,zoy,zb4]
     rfl
 · intro i hi y hg hk
   have e:((i:Int)+1).toNat=i+1:=by omega
   rw [e] at hk
   simp only [Int.toNat_natCast]
   exact k1_kap hab hn i hi hg.1 hg.2 y hk
theorem fin_rkap {a b:List Int} (hab:a.length=b.length) (hn:a.length≤500) :
  (brn (((chn a b:Nat):Int) == w64 ((a.length:Int)*(a.length:Int))) (some ((AV.tup [.agg (zae ⟨0,1⟩),B false],[]):AV×Mem))
 (callD zji (cw zoD [I (w64 (w64 ((eqn a b:Int)*(a.length:Int)) - (chn a b:Nat))),I (w64 (w64 ((a.length:Int)*(a.length:Int)) - (chn a b:Nat)))] []) fun (r26:GRatio×Int) =>
  some ((AV.tup [.agg (zae r26.fst),B true],[]):AV×Mem)))=some ((AV.tup [.agg (zae (ofR (kap a b))),B (kok a b)],[]):AV×Mem):=by
 have h1:=chn_le a b
 have h2:=eqn_le a b
 rw [← hab] at h1
 have h3:a.length*a.length≤500*500:=Nat.mul_le_mul hn hn
 have h4:eqn a b*a.length≤500*500:=Nat.mul_le_mul (by omega) hn
 have c1:((a.length:Int)*(a.length:Int))=((a.length*a.length:Nat):Int):=by rw [Int.natCast_mul]
 have c2:((eqn a b:Int)*(a.length:Int))=((eqn a b*a.length:Nat):Int):=by rw [Int.natCast_mul]
 rw [c1,c2]
 unfold kap kok
 rw [c2]
 generalize a.length*a.length=N at *
 generalize eqn a b*a.length=E at *
 rw [w64_id (n:=(N:Int)) (by omega) (by omega),w64_id (n:=(E:Int)) (by omega) (by omega),w64_id (by omega) (by omega),w64_id (by omega) (by omega)]
 by_cases h:chn a b=N
 · rw [brn_t (by rw [h]; simp),if_pos h,decide_eq_false (by omega),zero_of]
 · rw [brn_f (beq_false_of_ne (by omega)),if_neg h,decide_eq_true h,show ((N:Int) - (chn a b:Nat))=((N - chn a b:Nat):Int) by omega,
    zaL (c_rNew ((E:Int) - (chn a b:Nat)) (N - chn a b) (by omega) (by omega) (by omega))]
theorem k2_rkap {a b:List Int} (hab:a.length=b.length) (hn:a.length≤500) (ha:Mk a):∀ (k j:Nat),j+k=41 →
  zl5 a (List.map zaa (cnts a)) (List.map zaa (cnts b)) (eqn a b:Nat) (dot j a b) (j:Nat)=some (zid (ofR (kap a b),kok a b)):=by
 intro k
 induction k with
 | zero =>
   intro j hj
   have:j=41:=by omega
   subst this
   refine zv4 a _ _ _ _ _ ?_
   rw [zau,if_neg (by omega),List.length_map,dot_chn a b ha]
   exact fin_rkap hab hn
 | succ k ih =>
   intro j hj
   refine zv4 a _ _ _ _ _ ?_
   have hl1:j < (cnts a).length:=by rw [zmH]; omega
   have hl2:j < (cnts b).length:=by rw [zmH]; omega
   have hd:=dot_bd a b hn (by omega) j
   have h1:a.count (j:Int)≤500:=Nat.le_trans List.count_le_length hn
   have h2:b.count (j:Int)≤500:=Nat.le_trans List.count_le_length (by omega)
   have h3:=Nat.mul_le_mul h1 h2
   have h4:((a.count (j:Int):Nat):Int)*((b.count (j:Int):Nat):Int)=((a.count (j:Int)*b.count (j:Int):Nat):Int):=by rw [Int.natCast_mul]
   rw [zau,if_pos (by omega),zac (by omega),zac (show ((j:Nat):Int) < 41 by omega),Int.toNat_natCast,Nat.zero_add,zbl hl1,zac (by omega),zac (show ((j:Nat):Int) < 41 by omega),zbl hl2,zja,zja,h4,w64_id (n:=((a.count (j:Int)*b.count (j:Int):Nat):Int)) (by omega) (by omega),w64_id (by omega) (by omega),w64_id (by omega) (by omega),← h4]
   have:=ih (j+1) (by omega)
   simp only [dot] at this
   rw [show ((j:Int)+1)=((j+1:Nat):Int) by omega]
   exact this
theorem k1_rkap {a b:List Int} (hab:a.length=b.length) (hn:a.length≤500) (i:Nat) (hi1:i < a.length) (hx:0≤a[i]∧a[i]≤40) (hy:0≤b[i]∧b[i]≤40) (y:AV×Mem)
  (IH:zdB a b (List.map zaa (cnts (a.take (i+1)))) (List.map zaa (cnts (b.take (i+1)))) (eqn (a.take (i+1)) (b.take (i+1)):Nat) ((i:Int)+1)=some y) :
  zdB a b (List.map zaa (cnts (a.take i))) (List.map zaa (cnts (b.take i))) (eqn (a.take i) (b.take i):Nat) (i:Nat)=some y:=by
 have hi2:i < b.length:=by omega
 have t1:a.take (i+1)=a.take i++[a[i]]:=List.take_succ_eq_append_getElem hi1
 have t2:b.take (i+1)=b.take i++[b[i]]:=List.take_succ_eq_append_getElem hi2
 have l1:(a.take i).length=i:=by rw [List.length_take]; omega
 have l2:(b.take i).length=i:=by rw [List.length_take]; omega
 rw [t1,t2,zvK _ _ hx.1 (by omega),zvK _ _ hy.1 (by omega),zDX _ _ _ _ (by omega)] at IH
 have n1:(a.take i).count a[i]≤i:=Nat.le_trans List.count_le_length (by omega)
 have n2:(b.take i).count b[i]≤i:=Nat.le_trans List.count_le_length (by omega)
 have n3:eqn (a.take i) (b.take i)≤i:=Nat.le_trans (eqn_le _ _) (by omega)
 refine zqW a b _ _ _ _ ?_
 generalize hA:a.take i=A at *
 generalize hB:b.take i=Bq at *
 have g1:a[i].toNat < (cnts A).length:=by rw [zmH]; omega
 have g2:b[i].toNat < (cnts Bq).length:=by rw [zmH]; omega
 rw [List.length_map,zau,if_pos (by omega),zac (by omega),Int.toNat_natCast,zbl hi1,zau,if_neg (by omega),zac (by omega),zbl hi1,zau,if_neg (by omega),zac (by omega),zbl hi2,zau,if_neg (by omega),zac (by omega),zbl hi2,zau,if_neg (by omega),
  zac (by omega),zbl hi1,zac hx.1,zac (show a[i] < 41 by omega),Nat.zero_add,zbl g1,zac hx.1,zac (show a[i] < 41 by omega),zbl g1,
  zac (by omega),zbl hi2,zac hy.1,zac (show b[i] < 41 by omega),Nat.zero_add,zbl g2,zac hy.1,zac (show b[i] < 41 by omega),zbl g2,
  zac (by omega),zbl hi1,zac (by omega),zbl hi2,zja,zja,Int.toNat_of_nonneg hx.1,Int.toNat_of_nonneg hy.1,
  w64_id (n:=((A.count a[i]:Nat):Int)+1) (by omega) (by omega),w64_id (n:=((Bq.count b[i]:Nat):Int)+1) (by omega) (by omega),w64_id (n:=((eqn A Bq:Nat):Int)+1) (by omega) (by omega),w64_id (n:=(i:Int)+1) (by omega) (by omega)]
 rw [List.map_set,List.map_set] at IH
 by_cases h:a[i]=b[i]
 · rw [brn_t (by simpa using h)]
   rw [if_pos h] at IH
   exact IH
 · rw [brn_f (beq_false_of_ne h)]
   rw [if_neg h] at IH
   exact IH
theorem c_rKappa (a b:List Int) (ha:a.length≤1000000) (hb:b.length≤1000000):cw ztx [aI a,aI b] []=some (zid (kapR a b)):=by
 refine zHi a b ?_
 unfold kapR
 by_cases hab:a.length=b.length
 case neg =>
  rw [zaz (fun q=>hab q.1)]
  rw [brn_t (by rw [List.length_map,List.length_map,bne_iff_ne]; omega)]
  rfl
 rw [brn_f (by rw [List.length_map,List.length_map,hab]; simp)]
 by_cases h0:a.length=0
 · have e1:a=[]:=List.length_eq_zero_iff.1 h0
   have e2:b=[]:=List.length_eq_zero_iff.1 (by rw [← hab]; exact h0)
   subst e1
   subst e2
   rw [brn_t (by rfl),zax ⟨rfl,by simp,fun z hz=>by simp at hz,fun z hz=>by simp at hz⟩,if_pos rfl,kap_nil]
   rfl
 rw [brn_f (by rw [List.length_map]; exact beq_false_of_ne (by omega)),List.length_map,zau]
 by_cases hn:a.length≤500
 case neg =>
  rw [if_pos (by omega),zaz (fun q=>hn q.2.1)]
  rfl
 rw [if_neg (by omega)]
 have H:=zjX a.length (fun j hj=>(0≤a[j]∧a[j]≤40)∧0≤b[j]∧b[j]≤40) (fun i=>zdB a b (List.map zaa (cnts (a.take i.toNat))) (List.map zaa (cnts (b.take i.toNat))) ((eqn (a.take i.toNat) (b.take i.toNat):Nat):Int) i)
  (fun y=>y=zid (⟨0,1⟩,false)) (zid (ofR (kap a b),kok a b)) ?_ ?_ ?_
 · have Z:∀ y,zdB a b (List.map zaa (cnts (a.take (0:Int).toNat))) (List.map zaa (cnts (b.take (0:Int).toNat))) ((eqn (a.take (0:Int).toNat) (b.take (0:Int).toNat):Nat):Int) 0=some y →
     zdB a b (List.replicate 41 (zaa 0)) (List.replicate 41 (zaa 0)) 0 0=some y:=by
    intro y h
    rw [show (0:Int).toNat=0 from rfl,List.take_zero,List.take_zero,cnts_nil] at h
    exact h
   rcases H with ⟨h1,h2⟩ | ⟨⟨j,hj,h1⟩,y,rfl,h2⟩
   · rw [zax ⟨hab,hn,mk_of hab h1⟩,if_pos rfl]
     rw [zac (by omega),zac (by omega),zac (by decide),zac (by omega),zac (by omega),zac (by decide)]
     exact Z _ h2
   · rw [zaz (fun q=>h1 ⟨by have:=q.2.2.1 _ (List.getElem_mem hj); omega,by have:=q.2.2.2 _ (List.getElem_mem (show j < b.length by omega)); omega⟩)]
     rw [zac (by omega),zac (by omega),zac (by decide),zac (by omega),zac (by omega),zac (by decide)]
     exact Z _ h2
 · intro h1
   obtain ⟨m1,m2⟩:=mk_of hab h1
   refine zqW a b _ _ _ _ ?_
   rw [List.length_map,zau,if_neg (by omega),Int.toNat_natCast,List.take_of_length_le (by omega),List.take_of_length_le (by omega)]
   exact k2_rkap hab hn m1 41 0 rfl
 · intro i hi _ hg
   refine ⟨_,rfl,zqW a b _ _ _ _ ?_⟩
   have hi2:i < b.length:=by omega
   simp (disch:=omega) only [List.length_map,zak,zac,Int.toNat_natCast,zbi,List.getElem?_eq_getElem hi,List.getElem?_eq_getElem hi2,Option.bind_some,zb1,decide_eq_true_eq]
   repeat' split
   all_goals first | rfl | (exfalso; apply hg; omega)
 · intro i hi y hg hk
   have e:((i:Int)+1).toNat=i+1:=by omega
   rw [e] at hk
   simp only [Int.toNat_natCast]
   exact k1_rkap hab hn i hi hg.1 hg.2 y hk
end Go.Proofs.YticojpmhlhfhlaaGreat
