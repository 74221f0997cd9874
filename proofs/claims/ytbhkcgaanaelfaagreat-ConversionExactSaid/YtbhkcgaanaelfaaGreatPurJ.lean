/- Fractions: core's Rat, with sizes in bits; no program in sight. -/
namespace Go.Pure
theorem zvo (a b:Rat) (g:Nat) (hg:g=a.den.gcd b.den) (s:Int) (hs:s=a.num*((b.den / g:Nat):Int)+b.num*((a.den / g:Nat):Int)) (c:Nat) (hc:c=s.natAbs.gcd g) :
  (a+b).num=s / (c:Int)∧(a+b).den=(a.den / g)*(b.den / c):=by
 have hcg:c ∣ g:=hc▸Nat.gcd_dvd_right _ _
 have hgb:g ∣ b.den:=hg▸Nat.gcd_dvd_right _ _
 show (Rat.add a b).num=_∧(Rat.add a b).den=_
 delta Rat.add
 dsimp only
 split
 · rename_i h1
   have hg1:g=1:=by rw [hg]; exact h1
   have hc1:c=1:=by rw [hg1] at hcg; exact Nat.dvd_one.1 hcg
   subst hc1
   rw [hs,hg1]
   simp
 · simp only [Rat.maybeNormalize_eq,Int.divExact_eq_ediv,← hg,← hs,← hc]
   exact ⟨trivial,Nat.mul_div_assoc _ (Nat.dvd_trans hcg hgb)⟩
theorem zvl (a b:Rat):(a*b).num=a.num.tdiv (a.num.natAbs.gcd b.den:Nat)*b.num.tdiv (b.num.natAbs.gcd a.den:Nat) ∧
  (a*b).den=(a.den / b.num.natAbs.gcd a.den)*(b.den / a.num.natAbs.gcd b.den):=by
 show (Rat.mul a b).num=_∧(Rat.mul a b).den=_
 delta Rat.mul
 simp only [Int.divExact_eq_tdiv,Nat.divExact_eq_div]
 trivial
def Bd (n d:Nat) (r:Rat):Prop:=r.num.natAbs≤2 ^ n∧r.den≤2 ^ d
theorem Bd.mono {n d n' d':Nat} {r:Rat} (h:Bd n d r) (h1:n≤n') (h2:d≤d'):Bd n' d' r:=
 ⟨Nat.le_trans h.1 (Nat.pow_le_pow_right (by omega) h1),Nat.le_trans h.2 (Nat.pow_le_pow_right (by omega) h2)⟩
theorem zkT {x y n m N:Nat} (hx:x≤2 ^ n) (hy:y≤2 ^ m) (h:n+m≤N):x*y≤2 ^ N:=
 Nat.le_trans (Nat.mul_le_mul hx hy) (by rw [← Nat.pow_add]; exact Nat.pow_le_pow_right (by omega) h)
theorem zuH (s:Int) (c:Nat):(s / (c:Int)).natAbs≤s.natAbs:=by
 by_cases h:c=0
 · subst h; simp
 · have:=Int.natAbs_ediv_le_natAbs s c
   exact this
theorem sum_le (a b:Rat) {n d n' d' N:Nat} (ha:Bd n d a) (hb:Bd n' d' b) (h1:n+d'+1≤N) (h2:n'+d+1≤N) (g:Nat) :
  a.num.natAbs*(b.den / g)≤2 ^ (N - 1)∧b.num.natAbs*(a.den / g)≤2 ^ (N - 1)∧(a.num*((b.den / g:Nat):Int)+b.num*((a.den / g:Nat):Int)).natAbs≤2 ^ N:=by
 have e1:a.num.natAbs*(b.den / g)≤2 ^ (N - 1):=zkT ha.1 (Nat.le_trans (Nat.div_le_self _ _) hb.2) (by omega)
 have e2:b.num.natAbs*(a.den / g)≤2 ^ (N - 1):=zkT hb.1 (Nat.le_trans (Nat.div_le_self _ _) ha.2) (by omega)
 refine ⟨e1,e2,?_⟩
 have e3:=Int.natAbs_add_le (a.num*((b.den / g:Nat):Int)) (b.num*((a.den / g:Nat):Int))
 rw [Int.natAbs_mul,Int.natAbs_mul,Int.natAbs_natCast,Int.natAbs_natCast] at e3
 have e4:2 ^ N=2 ^ (N - 1)+2 ^ (N - 1):=by
  have:N=(N - 1)+1:=by omega
  conv=>lhs; rw [this,Nat.pow_succ]
  omega
 omega
theorem Bd.add {a b:Rat} {n d n' d' N D:Nat} (ha:Bd n d a) (hb:Bd n' d' b) (h1:n+d'+1≤N) (h2:n'+d+1≤N) (h3:d+d'≤D):Bd N D (a+b):=by
 obtain ⟨e1,e2⟩:=zvo a b _ rfl _ rfl _ rfl
 refine ⟨?_,?_⟩
 · rw [e1]
   exact Nat.le_trans (zuH _ _) (sum_le a b ha hb h1 h2 _).2.2
 · rw [e2]
   exact zkT (Nat.le_trans (Nat.div_le_self _ _) ha.2) (Nat.le_trans (Nat.div_le_self _ _) hb.2) h3
theorem Bd.neg {a:Rat} {n d:Nat} (h:Bd n d a):Bd n d (-a):=⟨by show (-a.num).natAbs≤_; rw [Int.natAbs_neg]; exact h.1,h.2⟩
theorem Bd.sub {a b:Rat} {n d n' d' N D:Nat} (ha:Bd n d a) (hb:Bd n' d' b) (h1:n+d'+1≤N) (h2:n'+d+1≤N) (h3:d+d'≤D):Bd N D (a - b):=by
 rw [Rat.sub_eq_add_neg]; exact ha.add hb.neg h1 h2 h3
theorem Bd.mul {a b:Rat} {n d n' d' N D:Nat} (ha:Bd n d a) (hb:Bd n' d' b) (h1:n+n'≤N) (h3:d+d'≤D):Bd N D (a*b):=by
 obtain ⟨e1,e2⟩:=zvl a b
 refine ⟨?_,?_⟩
 · rw [e1,Int.natAbs_mul,Int.natAbs_tdiv,Int.natAbs_tdiv]
   exact zkT (Nat.le_trans (Nat.div_le_self _ _) ha.1) (Nat.le_trans (Nat.div_le_self _ _) hb.1) h1
 · rw [e2]
   exact zkT (Nat.le_trans (Nat.div_le_self _ _) ha.2) (Nat.le_trans (Nat.div_le_self _ _) hb.2) h3
theorem Bd.inv {a:Rat} {n d:Nat} (h:Bd n d a):Bd d n a⁻¹:=by
 refine ⟨?_,?_⟩
 · rw [Rat.num_inv,Int.natAbs_mul,Int.natAbs_natCast]
   have h1:a.num.sign.natAbs≤1:=by
    rw [Int.natAbs_sign]
    split <;> omega
   exact Nat.le_trans (Nat.mul_le_mul h1 h.2) (by omega)
 · rw [Rat.den_inv]
   split
   · exact Nat.one_le_two_pow
   · exact h.1
end Go.Pure
namespace Go.Pure
abbrev Pt:=Rat×Rat
def sl (p q:Pt):Rat:=(q.2 - p.2) / (q.1 - p.1)
def ln (p:Pt) (s x:Rat):Rat:=p.2+(x - p.1)*s
def cv:List Pt→Rat→Rat
 | p :: q :: r,x=>if r=[]∨x≤q.1 then ln p (sl p q) x else cv (q :: r) x
 | _,_=>0
def Asc (l:List Pt):Prop:=l.Pairwise fun p q=>p.1 < q.1∧p.2 < q.2
def Fn:Pt→Rat→List (Pt×Rat)→Rat→Rat
 | a,s,[],x=>ln a s x
 | a,s,(b,t) :: r,x=>if x≤b.1 then ln a s x else Fn b t r x
def On:Pt→Rat→List (Pt×Rat)→Prop
 | _,_,[]=>True
 | a,s,(b,t) :: r=>a.1 < b.1∧b.2=ln a s b.1∧On b t r
def lastB:Pt→Rat→List (Pt×Rat)→Pt×Rat
 | a,s,[]=>(a,s)
 | _,_,(b,t) :: r=>lastB b t r
def End (a:Pt) (s:Rat) (L:List (Pt×Rat)) (z:Pt):Prop:=(lastB a s L).1.1 < z.1∧z.2=ln (lastB a s L).1 (lastB a s L).2 z.1
theorem sl_on {a z:Pt} {s:Rat} (h:a.1 < z.1) (h2:z.2=ln a s z.1):sl a z=s:=by
 unfold sl; rw [h2]; unfold ln
 have:z.1 - a.1≠0:=by grind
 grind
theorem ln_at (a:Pt) (s:Rat):ln a s a.1=a.2:=by unfold ln; grind
theorem ln_sl {a b:Pt} (h:a.1 < b.1):b.2=ln a (sl a b) b.1:=by
 unfold ln sl
 have:b.1 - a.1≠0:=by grind
 grind
theorem ev_Fn:∀ (L:List (Pt×Rat)) (a:Pt) (s:Rat) (z:Pt),On a s L→End a s L z→∀ x,cv (a :: (L.map (·.1)++[z])) x=Fn a s L x
 | [],a,s,z,_,he,x=>by
   show cv [a,z] x=ln a s x
   unfold cv
   rw [if_pos (.inl rfl),sl_on (a:=a) (z:=z) (s:=s) he.1 he.2]
 | (b,t) :: r,a,s,z,ho,he,x=>by
   show cv (a :: b :: (r.map (·.1)++[z])) x=_
   unfold cv Fn
   have hne:(r.map (·.1)++[z])≠[]:=by simp
   rw [sl_on ho.1 ho.2.1,ev_Fn r b t z ho.2.2 he x]
   simp only [hne,false_or]
def sg:List Pt→List (Pt×Rat)
 | q :: s :: r=>(q,sl q s) :: sg (s :: r)
 | _=>[]
theorem sg_map:∀ (r:List Pt) (q:Pt),(sg (q :: r)).map (·.1)++[(q :: r).getLast (by simp)]=q :: r
 | [],q=>rfl
 | s :: r,q=>by
   have ih:=sg_map r s
   show q :: ((sg (s :: r)).map (·.1)++[(q :: s :: r).getLast (by simp)])=_
   rw [List.getLast_cons (by simp),ih]
theorem sg_on:∀ (r:List Pt) (q p:Pt),Asc (p :: q :: r)→On p (sl p q) (sg (q :: r))∧End p (sl p q) (sg (q :: r)) ((q :: r).getLast (by simp))
 | [],q,p,h=>by
   have h1:p.1 < q.1:=by have:=(List.pairwise_cons.1 h).1 q (by simp); exact this.1
   exact ⟨trivial,h1,ln_sl h1⟩
 | s :: r,q,p,h=>by
   have h':=List.pairwise_cons.1 h
   have h1:p.1 < q.1:=(h'.1 q (by simp)).1
   obtain ⟨i1,i2⟩:=sg_on r s q h'.2
   refine ⟨⟨h1,ln_sl h1,i1⟩,?_⟩
   rw [List.getLast_cons (by simp)]
   exact i2
theorem ev_sg (p q:Pt) (r:List Pt) (h:Asc (p :: q :: r)) (x:Rat):cv (p :: q :: r) x=Fn p (sl p q) (sg (q :: r)) x:=by
 obtain ⟨h1,h2⟩:=sg_on r q p h
 have:=ev_Fn _ _ _ _ h1 h2 x
 rwa [sg_map] at this
def Up (s:Rat) (L:List (Pt×Rat)):Prop:=0 < s∧∀ b∈L,0 < b.2
theorem sl_pos {p q:Pt} (h1:p.1 < q.1) (h2:p.2 < q.2):0 < sl p q:=by
 unfold sl
 rw [Rat.div_def]
 exact Rat.mul_pos (by grind) (Rat.inv_pos.2 (by grind))
theorem sg_up:∀ (r:List Pt) (q:Pt),Asc (q :: r)→∀ b∈sg (q :: r),0 < b.2
 | [],_,_,b,hb=>by cases hb
 | s :: r,q,h,b,hb=>by
   have h':=List.pairwise_cons.1 h
   rcases List.mem_cons.1 hb with hb | hb
   · rw [hb]; exact sl_pos (h'.1 s (by simp)).1 (h'.1 s (by simp)).2
   · exact sg_up r s h'.2 b hb
theorem up_sg (p q:Pt) (r:List Pt) (h:Asc (p :: q :: r)):Up (sl p q) (sg (q :: r)):=by
 have h':=List.pairwise_cons.1 h
 exact ⟨sl_pos (h'.1 q (by simp)).1 (h'.1 q (by simp)).2,sg_up r q h'.2⟩
theorem ln_mono {a:Pt} {s x y:Rat} (hs:0 < s) (h:x < y):ln a s x < ln a s y:=by
 unfold ln
 have:0 < (y - x)*s:=Rat.mul_pos (by grind) hs
 grind
theorem Fn_at:∀ (L:List (Pt×Rat)) (a:Pt) (s:Rat),On a s L→Fn a s L a.1=a.2
 | [],a,s,_=>ln_at a s
 | (b,t) :: r,a,s,h=>by
   unfold Fn
   rw [if_pos (by have:=h.1; grind),ln_at]
theorem Fn_mono:∀ (L:List (Pt×Rat)) (a:Pt) (s:Rat),On a s L→Up s L→∀ {x y:Rat},x < y→Fn a s L x < Fn a s L y
 | [],a,s,_,hu,x,y,h=>ln_mono hu.1 h
 | (b,t) :: r,a,s,ho,hu,x,y,h=>by
   have hu':Up t r:=⟨hu.2 (b,t) (by simp),fun c hc=>hu.2 c (by simp [hc])⟩
   unfold Fn
   by_cases hy:y≤b.1
   · rw [if_pos hy,if_pos (by grind)]; exact ln_mono hu.1 h
   · rw [if_neg hy]
     by_cases hx:x≤b.1
     · rw [if_pos hx]
       have h1:=Fn_mono r b t ho.2.2 hu' (x:=b.1) (y:=y) (by grind)
       rw [Fn_at r b t ho.2.2,ho.2.1] at h1
       by_cases he:x=b.1
       · rw [he]; exact h1
       · have:=ln_mono (a:=a) hu.1 (show x < b.1 by grind)
         grind
     · rw [if_neg hx]; exact Fn_mono r b t ho.2.2 hu' h
theorem ztE:∀ (L:List (Pt×Rat)) (a:Pt) (s:Rat),On a s L→∀ b∈L,Fn a s L b.1.1=b.1.2
 | [],_,_,_,_,hb=>by cases hb
 | (b,t) :: r,a,s,h,c,hc=>by
   unfold Fn
   rcases List.mem_cons.1 hc with hc | hc
   · rw [hc,if_pos (by grind)]; exact h.2.1.symm
   · have:∀ (r:List (Pt×Rat)) (b:Pt) (t:Rat),On b t r→∀ c∈r,b.1 < c.1.1:=by
      intro r
      induction r with
      | nil=>intro b t _ c hc; cases hc
      | cons d r ih =>
        intro b t h c hc
        obtain ⟨d,u⟩:=d
        rcases List.mem_cons.1 hc with hc | hc
        · rw [hc]; exact h.1
        · have:=ih d u h.2.2 c hc; have:=h.1; grind
     have h1:=this r b t h.2.2 c hc
     rw [if_neg (by grind)]
     exact ztE r b t h.2.2 c hc
theorem Fn_end:∀ (L:List (Pt×Rat)) (a:Pt) (s:Rat) (z:Pt),On a s L→End a s L z→a.1 < z.1∧Fn a s L z.1=z.2
 | [],a,s,z,_,he=>⟨he.1,he.2.symm⟩
 | (b,t) :: r,a,s,z,ho,he=>by
   obtain ⟨h1,h2⟩:=Fn_end r b t z ho.2.2 he
   have:=ho.1
   refine ⟨by grind,?_⟩
   unfold Fn
   rw [if_neg (by grind)]
   exact h2
theorem ev_mono {l:List Pt} (h:Asc l) (hl:2≤l.length) {x y:Rat} (hxy:x < y):cv l x < cv l y:=by
 match l,hl with
 | p :: q :: r,_ =>
   rw [ev_sg p q r h,ev_sg p q r h]
   exact Fn_mono _ _ _ (sg_on r q p h).1 (up_sg p q r h) hxy
theorem ev_through {l:List Pt} (h:Asc l) (hl:2≤l.length):∀ p∈l,cv l p.1=p.2:=by
 match l,hl with
 | p :: q :: r,_ =>
   obtain ⟨h1,h2⟩:=sg_on r q p h
   intro b hb
   rw [ev_sg p q r h]
   rcases List.mem_cons.1 hb with hb | hb
   · rw [hb]; exact Fn_at _ _ _ h1
   · rw [← sg_map r q] at hb
     rcases List.mem_append.1 hb with hb | hb
     · obtain ⟨c,hc,e⟩:=List.mem_map.1 hb
       rw [← e]; exact ztE _ _ _ h1 c hc
     · rw [List.mem_singleton.1 hb]; exact (Fn_end _ _ _ _ h1 h2).2
theorem ev_at:∀ (l:List Pt) (i:Nat) (x:Rat) (p q:Pt),Asc l→l[i]?=some p→l[i+1]?=some q→(i=0∨p.1 < x)→(i+2=l.length∨x≤q.1)→cv l x=ln p (sl p q) x
 | [],_,_,_,_,_,hp,_,_,_=>by simp at hp
 | [_],_,_,_,_,_,_,hq,_,_=>by simp at hq
 | a :: b :: r,0,x,p,q,ha,hp,hq,h1,h2=>by
   simp only [List.getElem?_cons_zero,Option.some.injEq] at hp
   simp only [List.getElem?_cons_succ,List.getElem?_cons_zero,Option.some.injEq] at hq
   subst hp; subst hq
   unfold cv
   rw [if_pos]
   rcases h2 with h2 | h2
   · left; simp at h2; exact h2
   · exact .inr h2
 | a :: b :: r,i+1,x,p,q,ha,hp,hq,h1,h2=>by
   have hp':(b :: r)[i]?=some p:=by simpa using hp
   have hq':(b :: r)[i+1]?=some q:=by simpa using hq
   have ha':=(List.pairwise_cons.1 ha).2
   have hlen:i+1 < (b :: r).length:=(List.getElem?_eq_some_iff.1 hq').1
   have hpx:p.1 < x:=by rcases h1 with h1 | h1; · omega
                        · exact h1
   have hb:b.1 < x:=by
    have hm:p∈b :: r:=List.mem_of_getElem? hp'
    rcases List.mem_cons.1 hm with hm | hm
    · rw [← hm]; exact hpx
    · have:=((List.pairwise_cons.1 ha').1 p hm).1; grind
   have hr:r≠[]:=by intro h; subst h; simp at hlen
   unfold cv
   rw [if_neg (by rintro (h | h); exact hr h; grind)]
   refine ev_at (b :: r) i x p q ha' hp' hq' (.inr hpx) ?_
   rcases h2 with h2 | h2
   · left; simp at h2 ⊢; omega
   · exact .inr h2
def bn:List Pt→List Pt
 | p :: q :: s :: r=>if sl q s=sl p q then bn (q :: s :: r) else q :: bn (q :: s :: r)
 | _=>[]
def bs:Rat→List (Pt×Rat)→List (Pt×Rat)
 | _,[]=>[]
 | s,(b,t) :: r=>if t=s then bs s r else (b,t) :: bs t r
def lf (l:List Pt):Rat:=match l with | []=>0 | a :: _=>a.1 - 1
def rt (l:List Pt):Rat:=match l with | []=>1 | a :: r=>((a :: r).getLast (by simp)).1+1
def nf (l:List Pt):List Pt:=(lf (bn l),cv l (lf (bn l))) :: (bn l++[(rt (bn l),cv l (rt (bn l)))])
theorem lt1 (x:Rat):x < x+1:=by grind
theorem bn_sub:∀ (l:List Pt),(bn l).Sublist l
 | []=>List.Sublist.refl _
 | [_]=>List.nil_sublist _
 | [_,_]=>List.nil_sublist _
 | p :: q :: s :: r=>by
   have ih:=bn_sub (q :: s :: r)
   have it:=bn_tl (q :: s :: r)
   unfold bn
   split
   · exact List.Sublist.cons _ ih
   · exact List.Sublist.cons _ (List.Sublist.cons_cons _ it)
where
 bn_tl:∀ (l:List Pt),(bn l).Sublist l.tail
 | []=>List.Sublist.refl _
 | [_]=>List.nil_sublist _
 | [_,_]=>List.nil_sublist _
 | p :: q :: s :: r=>by
   have it:=bn_tl (q :: s :: r)
   unfold bn
   show List.Sublist _ (q :: s :: r)
   split
   · exact List.Sublist.cons _ it
   · exact List.Sublist.cons_cons _ it
end Go.Pure
namespace Go.Pure
theorem seg:∀ (l:List Pt) (x:Rat),2≤l.length→∃ (i:Nat) (p q:Pt),l[i]?=some p∧l[i+1]?=some q∧(i=0∨p.1 < x)∧(i+2=l.length∨x≤q.1)
 | [],_,h=>by simp at h
 | [_],_,h=>by simp at h
 | [p,q],x,_=>⟨0,p,q,rfl,rfl,.inl rfl,.inl rfl⟩
 | p :: q :: r :: l,x,_=>by
   by_cases h:x≤q.1
   · exact ⟨0,p,q,rfl,rfl,.inl rfl,.inr h⟩
   · obtain ⟨i,a,b,h1,h2,h3,h4⟩:=seg (q :: r :: l) x (by simp)
     refine ⟨i+1,a,b,by simpa using h1,by simpa using h2,.inr ?_,?_⟩
     · rcases h3 with h3 | h3
       · subst h3; simp at h1; rw [← h1]; grind
       · exact h3
     · rcases h4 with h4 | h4
       · left; simp at h4 ⊢; omega
       · exact .inr h4
def ex (l:List Pt):List Pt:=l.map fun p=>(p.2,p.1)
theorem ex_asc {l:List Pt} (h:Asc l):Asc (ex l):=by
 unfold Asc ex
 rw [List.pairwise_map,List.pairwise_iff_getElem]
 intro i j hi hj hij
 have hpq:=List.pairwise_iff_getElem.1 h i j hi hj hij
 exact ⟨hpq.2,hpq.1⟩
theorem ex_len (l:List Pt):(ex l).length=l.length:=by simp [ex]
theorem zft {l:List Pt} (h:Asc l) {i:Nat} {p q:Pt} (hp:l[i]?=some p) (hq:l[i+1]?=some q):p.1 < q.1∧p.2 < q.2:=by
 obtain ⟨h1,e1⟩:=List.getElem?_eq_some_iff.1 hp
 obtain ⟨h2,e2⟩:=List.getElem?_eq_some_iff.1 hq
 have:=List.pairwise_iff_getElem.1 h i (i+1) h1 h2 (by omega)
 rw [e1,e2] at this
 exact this
end Go.Pure
namespace Go.Pure
set_option linter.unusedVariables false
def Inner (l:List Pt) (y:Rat):Prop:=∃ (i:Nat) (p:Pt),1≤i∧i+1 < l.length∧l[i]?=some p∧p.1=y
theorem ev_at' {l:List Pt} {i:Nat} {x:Rat} {p q:Pt} (h:Asc l) (hl:2≤l.length) (hp:l[i]?=some p) (hq:l[i+1]?=some q) (h1:i=0∨p.1≤x) (h2:i+2=l.length∨x≤q.1):cv l x=ln p (sl p q) x:=by
 by_cases he:x=p.1
 · rw [he,ev_through h hl p (List.mem_of_getElem? hp),ln_at]
 · refine ev_at l i x p q h hp hq ?_ h2
   rcases h1 with h1 | h1
   · exact .inl h1
   · exact .inr (by grind)
theorem flat {l:List Pt} (h:Asc l) (hl:2≤l.length) {u v:Rat} (huv:u < v) (hn:∀ y,Inner l y→¬ (u < y∧y < v)):∃ (p:Pt) (s:Rat),0 < s∧∀ x,u≤x→x≤v→cv l x=ln p s x:=by
 obtain ⟨i,p,q,hp,hq,h1,h2⟩:=seg l ((u+v) / 2) hl
 have hlen:i+1 < l.length:=(List.getElem?_eq_some_iff.1 hq).1
 obtain ⟨a1,a2⟩:=zft h hp hq
 refine ⟨p,sl p q,sl_pos a1 a2,fun x hx1 hx2=>ev_at' h hl hp hq ?_ ?_⟩
 · rcases h1 with h1 | h1
   · exact .inl h1
   · by_cases h0:i=0
     · exact .inl h0
     · right
       have:=hn p.1 ⟨i,p,by omega,hlen,hp,rfl⟩
       grind
 · by_cases hz:i+2=l.length
   · exact .inl hz
   · right
     have:=hn q.1 ⟨i+1,q,by omega,by omega,hq,rfl⟩
     rcases h2 with h2 | h2
     · exact absurd h2 hz
     · grind
def cps (f g:List Pt) (xs:List Rat):List Pt:=xs.map fun x=>(x,cv g (cv f x))
section
variable {f g:List Pt} {xs:List Rat} (hf:Asc f) (hf2:2≤f.length) (hg:Asc g) (hg2:2≤g.length)
theorem cps_asc (hf:Asc f) (hf2:2≤f.length) (hg:Asc g) (hg2:2≤g.length) (hx:xs.Pairwise (· < ·)):Asc (cps f g xs):=by
 unfold Asc cps
 rw [List.pairwise_map,List.pairwise_iff_getElem]
 intro i j hi hj hij
 have:=List.pairwise_iff_getElem.1 hx i j hi hj hij
 exact ⟨this,ev_mono hg hg2 (ev_mono hf hf2 this)⟩
end
end Go.Pure
namespace Go.Pure
def Fit (r:Rat):Prop:=r.num.natAbs≤1152921504606846976∧r.den≤1152921504606846976
instance (r:Rat):Decidable (Fit r):=by unfold Fit; infer_instance
def pc:List Pt→Rat→Pt×Pt
 | p :: q :: r,x=>if r=[]∨x≤q.1 then (p,q) else pc (q :: r) x
 | _,_=>((0,0),(0,0))
def SlF (p q:Pt):Prop:=Fit (q.2 - p.2)∧Fit (q.1 - p.1)∧Fit (sl p q)
def LnF (p q:Pt) (x:Rat):Prop:=SlF p q∧Fit (x - p.1)∧Fit ((x - p.1)*sl p q)∧Fit (ln p (sl p q) x)
def EvF (l:List Pt) (x:Rat):Prop:=LnF (pc l x).1 (pc l x).2 x
def BnF:List Pt→Prop
 | p :: q :: r=>SlF p q∧BnF (q :: r)
 | _=>True
def NfF (l:List Pt):Prop:=BnF l∧Fit (lf (bn l))∧Fit (rt (bn l))∧EvF l (lf (bn l))∧EvF l (rt (bn l))
def AllF (l:List Pt):Prop:=∀ p∈l,Fit p.1∧Fit p.2
theorem cv_pc:∀ (l:List Pt) (x:Rat),2≤l.length→cv l x=ln (pc l x).1 (sl (pc l x).1 (pc l x).2) x
 | [],_,h=>by simp at h
 | [_],_,h=>by simp at h
 | p :: q :: r,x,_=>by
   unfold cv pc
   by_cases h:r=[]∨x≤q.1
   · rw [if_pos h,if_pos h]
   · rw [if_neg h,if_neg h]
     refine cv_pc (q :: r) x ?_
     cases r with
     | nil=>exact absurd (.inl rfl) h
     | cons s r=>simp
theorem pc_at:∀ (l:List Pt) (i:Nat) (x:Rat) (p q:Pt),Asc l→l[i]?=some p→l[i+1]?=some q→(i=0∨p.1 < x)→(i+2=l.length∨x≤q.1)→pc l x=(p,q)
 | [],_,_,_,_,_,hp,_,_,_=>by simp at hp
 | [_],_,_,_,_,_,_,hq,_,_=>by simp at hq
 | a :: b :: r,0,x,p,q,ha,hp,hq,h1,h2=>by
   simp only [List.getElem?_cons_zero,Option.some.injEq] at hp
   simp only [List.getElem?_cons_succ,List.getElem?_cons_zero,Option.some.injEq] at hq
   subst hp; subst hq
   unfold pc
   rw [if_pos]
   rcases h2 with h2 | h2
   · left; simp at h2; exact h2
   · exact .inr h2
 | a :: b :: r,i+1,x,p,q,ha,hp,hq,h1,h2=>by
   have hp':(b :: r)[i]?=some p:=by simpa using hp
   have hq':(b :: r)[i+1]?=some q:=by simpa using hq
   have ha':=(List.pairwise_cons.1 ha).2
   have hlen:i+1 < (b :: r).length:=(List.getElem?_eq_some_iff.1 hq').1
   have hpx:p.1 < x:=by rcases h1 with h1 | h1; · omega
                        · exact h1
   have hb:b.1 < x:=by
    have hm:p∈b :: r:=List.mem_of_getElem? hp'
    rcases List.mem_cons.1 hm with hm | hm
    · rw [← hm]; exact hpx
    · have:=((List.pairwise_cons.1 ha').1 p hm).1; grind
   have hr:r≠[]:=by intro h; subst h; simp at hlen
   unfold pc
   rw [if_neg (by rintro (h | h); exact hr h; grind)]
   refine pc_at (b :: r) i x p q ha' hp' hq' (.inr hpx) ?_
   rcases h2 with h2 | h2
   · left; simp at h2 ⊢; omega
   · exact .inr h2
theorem EvF.val {l:List Pt} {x:Rat} (hl:2≤l.length) (h:EvF l x):Fit (cv l x):=by
 rw [cv_pc l x hl]; exact h.2.2.2
end Go.Pure
