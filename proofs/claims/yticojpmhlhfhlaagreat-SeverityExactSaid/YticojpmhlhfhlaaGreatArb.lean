/- Arbitration: what the functions compute. -/
import Derived.Test.YticojpmhlhfhlaaGreatR29
namespace Go.Proofs.YticojpmhlhfhlaaGreat
open Go.Ab
set_option linter.unusedSimpArgs false
def worth (g:GGiven):Int:=if g.Value < 0 then 0 else g.Value
theorem zge (g:GGiven):0≤worth g:=by unfold worth; split <;> omega
theorem zuB (g:GGiven):cw zcj [.agg (zao g)] []=some (zlO (worth g)):=zzL g rfl
def cmpI (a b:Int):Int:=if a < b then -1 else if b < a then 1 else 0
theorem c_isNaN (a:Int):cw zi6 [I a] []=some (zrj false):=by
 refine zvM a ?_
 simp
 rfl
theorem c_cmp (a b:Int):cw zdZ [I a,I b] []=some (znW (cmpI a b)):=by
 refine ztX a b ?_
 rw [c_isNaN a,zrN,c_isNaN b,zrN,zai,zai,zau,zau]
 unfold cmpI
 split
 · rfl
 · split <;> rfl
def zsa:List Int→Int
 | []=>0
 | x :: r=>if x=0 then zsa r else x
theorem c_Or (l:List Int) (hl:l.length≤1000000):cw zmT [.sl 1 (List.map zaa l)] []=some (zrg (zsa l)):=by
 refine zAr l ?_
 refine zvQ l (fun i r=>zns l (i:Nat)=some (zrg (zsa r))) ?_ ?_
 · refine zjU l _ ?_
   rw [List.length_map,zau,if_neg (by omega)]
   rfl
 · intro i x r hi hx hr ih
   refine zjU l _ ?_
   rw [List.length_map,zau,if_pos (by omega),zac (by omega),Int.toNat_natCast,zbi,List.getElem?_eq_getElem hi,Option.bind_some,hx,w64_id (by omega) (by omega)]
   by_cases h0:x=0
   · subst h0
     simpa [zsa] using ih
   · simp only [h0,zsa,if_false,show (x != 0)=true from by simpa using h0,zap]
     rfl
def cmpS (a b:GStamp):Int:=zsa [cmpI a.Time b.Time,cmpI a.Source b.Source,cmpI a.Seq b.Seq]
theorem c_cmpS (a b:GStamp):cw zqr [.agg (zaT a),.agg (zaT b)] []=some (zrt (cmpS a b)):=by
 refine zEY a b ?_
 rw [c_cmp _ _,zj3,c_cmp _ _,zj3,c_cmp _ _,zj3,c_Or _ (by simp),zEk]
 rfl
def stepD (b:GGiven×Bool) (g:GGiven):GGiven×Bool:=
 if g.Level < 2 then b
 else if b.2=false∨b.1.Level < g.Level∨(g.Level=b.1.Level∧0≤cmpS g.Stamp b.1.Stamp) then (g,true) else b
def zkL (l:List GGiven):GGiven×Bool:=l.foldl stepD (⟨0,0,0,0,0,⟨0,0,0⟩⟩,false)
theorem c_decisive (l:List GGiven) (hl:l.length≤1000000):cw zjl [.sl 8 (List.map zao l)] []=some (zf1 (zkL l)):=by
 refine zwA l ?_
 refine zvQ l (fun i r=>∀ (b:GGiven) (f:Bool),zbH l b f (i:Nat)=some (zf1 (r.foldl stepD (b,f)))) ?_ ?_ _ _
 · intro b f
   refine zmW l b f _ ?_
   rw [List.length_map,zau,if_neg (by omega)]
   rfl
 · intro i x r hi hx hr ih b f
   refine zmW l b f _ ?_
   rw [List.length_map,zau,if_pos (by omega),zac (by omega),Int.toNat_natCast,zbP,List.getElem?_eq_getElem hi,Option.bind_some,hx,w64_id (by omega) (by omega)]
   have e1:((i:Int)+1)=((i+1:Nat):Int):=by omega
   rw [e1,ih,ih,c_cmpS _ _,zzI,zau,zau,zau,List.foldl_cons]
   unfold stepD
   by_cases h1:x.Level < 2
   · rw [if_pos h1,if_pos h1]
   · rw [if_neg h1,if_neg h1]
     cases f with
     | false=>simp
     | true =>
       simp only [Bool.not_true,zai,Bool.true_eq_false,false_or]
       by_cases h2:b.Level < x.Level
       · rw [if_pos h2,if_pos (.inl h2)]
       · rw [if_neg h2]
         by_cases h3:x.Level=b.Level
         · simp only [h3,beq_self_eq_true,zap]
           by_cases h4:0≤cmpS x.Stamp b.Stamp
           · rw [if_pos h4,if_pos (.inr ⟨trivial,h4⟩)]
           · rw [if_neg h4,if_neg (by rintro (h | h) <;> first | omega | exact h4 h.2)]
         · rw [show (x.Level == b.Level)=false by simpa using h3,zai,if_neg (by rintro (h | h) <;> first | omega | exact h3 h.1)]
def sumW (l:List GGiven):Int:=l.foldl (fun s g=>s+worth g) 0
def mean (l:List GGiven):Int:=if (l.length:Int)≤2*(sumW l).tmod l.length then (sumW l).tdiv l.length+1 else (sumW l).tdiv l.length
theorem c_Div64 (a b:Int) (ha:0≤a) (ha2:a < 18446744073709551616) (hb:0 < b):cw zki [.v (.int .u64 0),.v (.int .u64 a),.v (.int .u64 b)] []=some (zvd (a.tdiv b,a.tmod b)):=by
 refine zAl a b ?_
 have h1:(b == 0)=false:=by simpa using (show b≠0 by omega)
 have h2:0≤a.tdiv b:=Int.tdiv_nonneg ha (by omega)
 have h3:a.tdiv b≤a:=Int.tdiv_le_self b ha
 rw [h1,zai,zau,if_neg (by omega),zac (by omega),zac (by omega),zd7 h2 (by omega)]
 rfl
theorem sumW_acc (l:List GGiven) (s:Int):l.foldl (fun s g=>s+worth g) s=s+sumW l:=by
 unfold sumW
 induction l generalizing s with
 | nil=>simp
 | cons g r ih=>simp only [List.foldl_cons]; rw [ih,ih (0+worth g)]; omega
theorem zs8 (g:GGiven) (l:List GGiven):sumW (g :: l)=worth g+sumW l:=by
 have:=sumW_acc l (0+worth g)
 unfold sumW at this ⊢
 simp only [List.foldl_cons]
 rw [this]
 omega
theorem zlI (l:List GGiven):0≤sumW l:=by
 induction l with
 | nil=>simp [sumW]
 | cons g r ih=>rw [zs8]; have:=zge g; omega
theorem sumW_le (l:List GGiven) (M:Int) (h:∀ g∈l,worth g≤M):sumW l≤l.length*M:=by
 induction l with
 | nil=>simp [sumW]
 | cons g r ih =>
   have h1:=ih (fun g hg=>h g (by simp [hg]))
   have h2:=h g (by simp)
   rw [zs8,List.length_cons]
   have:((r.length+1:Nat):Int)*M=r.length*M+M:=by
    rw [Int.natCast_add,Int.add_mul]; simp
   omega
theorem c_mean (l:List GGiven) (hl:l.length≤1000000) (h0:l≠[]) (hv:∀ g∈l,g.Value≤1099511627776):cw zmA [.sl 8 (List.map zao l)] []=some (ziF (mean l)):=by
 have hw:∀ g∈l,worth g≤1099511627776:=fun g hg=>by have:=hv g hg; unfold worth; split <;> omega
 have hpos:0 < l.length:=List.length_pos_iff.2 h0
 have hs:sumW l≤1099511627776000000:=by
  have h1:=sumW_le l _ hw
  have h2:(l.length:Int)*1099511627776≤1000000*1099511627776:=Int.mul_le_mul_of_nonneg_right (by omega) (by omega)
  omega
 have hs0:=zlI l
 refine zBg l ?_
 refine zvQ l (fun i r=>∀ (s:Int),0≤s→s+sumW r=sumW l→zhf l 0 s (i:Nat)=some (ziF (mean l))) ?_ ?_ 0 (by omega) (by omega)
 · intro s hs' he
   have hse:s=sumW l:=by simpa [sumW] using he
   refine zqQ l _ _ _ ?_
   rw [List.length_map,zau,if_neg (by omega),zd7 (by omega) (by omega),c_Div64 s l.length hs' (by omega) (by omega),zDt,zau]
   have h1:0≤s.tmod l.length:=Int.tmod_nonneg _ hs'
   have h2:s.tmod l.length < l.length:=Int.tmod_lt_of_pos _ (by omega)
   have h3:0≤s.tdiv l.length:=Int.tdiv_nonneg hs' (by omega)
   have h4:s.tdiv l.length≤s:=Int.tdiv_le_self _ hs'
   rw [zd7 (by show 0≤2*s.tmod l.length; omega) (by show 2*s.tmod l.length < _; omega)]
   show (if (l.length:Int)≤2*s.tmod l.length then some (I (w64 (wu64 (s.tdiv l.length+1))),[]) else some (I (w64 (s.tdiv l.length)),[]))=_
   rw [zd7 (by omega) (by omega),w64_id (by omega) (by omega),w64_id (by omega) (by omega),hse]
   unfold mean
   split <;> rfl
 · intro i x r hi hx hr ih s hs' he
   refine zqQ l _ _ _ ?_
   rw [List.length_map,zau,if_pos (by omega),zac (by omega),Int.toNat_natCast,zbP,List.getElem?_eq_getElem hi,Option.bind_some,hx,zuB x,zcn,w64_id (by omega) (by omega)]
   have hx0:=zge x
   rw [zs8] at he
   have hr0:=zlI r
   rw [zd7 hx0 (by omega)]
   have e2:(s.toNat+(worth x).toNat+Int.toNat 0) / 2 ^ 64=0:=Nat.div_eq_of_lt (by simp; omega)
   have e3:(s.toNat+(worth x).toNat+Int.toNat 0) % 2 ^ 64=s.toNat+(worth x).toNat:=by rw [Nat.mod_eq_of_lt (by simp; omega)]; simp
   rw [e2,e3]
   have e4:Int.ofNat (s.toNat+(worth x).toNat)=s+worth x:=by simp; omega
   rw [e4,show wu64 (0+Int.ofNat 0)=0 from rfl]
   have e1:((i:Int)+1)=((i+1:Nat):Int):=by omega
   rw [e1]
   exact ih (s+worth x) (by omega) (by omega)
def minW (l:List GGiven) (m:Int):Int:=l.foldl (fun m g=>if worth g < m then worth g else m) m
def maxW (l:List GGiven) (m:Int):Int:=l.foldl (fun m g=>if m < worth g then worth g else m) m
def zfi (r:GMarkRule) (l:List GGiven):GVerdict:=
 if (zkL l).2=true then ⟨3,worth (zkL l).1⟩
 else match l with
  | []=>⟨0,0⟩
  | [g]=>if r.Double=true then ⟨1,0⟩ else ⟨3,worth g⟩
  | g :: _=>if r.Tolerance < maxW l (worth g) - minW l (worth g) then ⟨2,0⟩ else ⟨3,mean l⟩
theorem minW_bd (l:List GGiven):∀ (m:Int),0≤m→0≤minW l m∧minW l m≤m:=by
 induction l with
 | nil=>intro m hm; exact ⟨hm,Int.le_refl _⟩
 | cons g r ih =>
   intro m hm
   have hw:=zge g
   simp only [minW,List.foldl_cons]
   split
   · have:=ih (worth g) hw; unfold minW at this; omega
   · exact ih m hm
theorem maxW_bd (l:List GGiven) (M:Int) (h:∀ g∈l,worth g≤M):∀ (m:Int),m≤M→m≤maxW l m∧maxW l m≤M:=by
 induction l with
 | nil=>intro m hm; exact ⟨Int.le_refl _,hm⟩
 | cons g r ih =>
   intro m hm
   have hw:=h g (by simp)
   have ih':=ih (fun g hg=>h g (by simp [hg]))
   simp only [maxW,List.foldl_cons]
   split
   · have:=ih' (worth g) hw; unfold maxW at this; omega
   · exact ih' m hm
theorem c_Decide (r:GMarkRule) (l:List GGiven) (hl:l.length≤1000000) (hv:∀ g∈l,g.Value≤1099511627776) :
  cw zky [.agg (zaU r),.sl 8 (List.map zao l)] []=some (ze9 (zfi r l)):=by
 have hw:∀ g∈l,worth g≤1099511627776:=fun g hg=>by have:=hv g hg; unfold worth; split <;> omega
 refine zyU r l ?_
 rw [c_decisive l hl,ztq,zuB _,zcn]
 unfold zfi
 cases hb:(zkL l).2 with
 | true=>rw [if_pos rfl]; rfl
 | false =>
   rw [if_neg (by simp),List.length_map,zai]
   match l,hl,hv,hw with
   | [],_,_,_=>rfl
   | [g],_,_,_ =>
     rw [show (((([g]:List GGiven).length:Nat):Int) == 0)=false from rfl,zai,show (((([g]:List GGiven).length:Nat):Int) == 1)=true from rfl,zap,zac (Int.le_refl 0)]
     rw [zbP,show ([g]:List GGiven)[Int.toNat 0]?=some g from rfl,Option.bind_some,zuB _,zcn]
     cases r.Double <;> rfl
   | g :: g' :: t,hl,hv,hw =>
     have h1:((((g :: g' :: t:List GGiven).length:Nat):Int) == 0)=false:=by simp; omega
     have h2:((((g :: g' :: t:List GGiven).length:Nat):Int) == 1)=false:=by simp; omega
     rw [h1,zai,h2,zai,zac (Int.le_refl 0),zbP,show (g :: g' :: t:List GGiven)[Int.toNat 0]?=some g from rfl,Option.bind_some,zuB _,zcn,zac (Int.le_refl 0),zbP,show (g :: g' :: t:List GGiven)[Int.toNat 0]?=some g from rfl,Option.bind_some,zuB _,zcn]
     show zeh r (g :: g' :: t) (worth g) (worth g) 0=some (ze9 (if r.Tolerance < maxW (g :: g' :: t) (worth g) - minW (g :: g' :: t) (worth g) then ⟨2,0⟩ else ⟨3,mean (g :: g' :: t)⟩))
     generalize hL:g :: g' :: t=L at *
     have hne:L≠[]:=by rw [← hL]; simp
     have hg:=hw g (by rw [← hL]; simp)
     have hg0:=zge g
     refine zvQ L (fun i s=>∀ (a b:Int),minW s a=minW L (worth g)→maxW s b=maxW L (worth g)→zeh r L a b (i:Nat)=some (ze9 (if r.Tolerance < maxW L (worth g) - minW L (worth g) then ⟨2,0⟩ else ⟨3,mean L⟩))) ?_ ?_ (worth g) (worth g) rfl rfl
     · intro a b ha hb
       have ha':a=minW L (worth g):=ha
       have hb':b=maxW L (worth g):=hb
       have q1:=minW_bd L (worth g) hg0
       have q2:=maxW_bd L _ hw (worth g) hg
       refine zon r L a b _ ?_
       rw [List.length_map,zau,if_neg (by omega),zau,w64_id (by omega) (by omega),c_mean L hl hne hv,zwn,ha',hb']
       split <;> rfl
     · intro i x s hi hx hr ih a b ha hb
       refine zon r L a b _ ?_
       rw [List.length_map,zau,if_pos (by omega),zac (by omega),Int.toNat_natCast,zbP,List.getElem?_eq_getElem hi,Option.bind_some,hx,zuB x,zcn,zcn,w64_id (by omega) (by omega)]
       have e1:((i:Int)+1)=((i+1:Nat):Int):=by omega
       rw [e1]
       exact ih _ _ ha hb
end Go.Proofs.YticojpmhlhfhlaaGreat
namespace Go.Proofs.YticojpmhlhfhlaaGreat
open Go.Ab
set_option linter.unusedSimpArgs false
def chkR (r:GMarkRule):Int:=if r.Tolerance < 0 then 2 else if 40 < r.Tolerance then 2 else 0
theorem zrI (r:GMarkRule):cw zhX [.agg (zaU r)] []=some (zlT (chkR r)):=by
 refine zAa r ?_
 unfold chkR
 simp only [zb1,decide_eq_true_eq]
 split
 · rfl
 · split <;> rfl
theorem c_right (r:GMarkRule) (s:GSetup) (hs:OkSetup s):cw zl4 [.agg (zaU r),.agg (zat s)] []=some (zl2 (chkR r == 0)):=by
 refine zz7 r s ?_
 simp only [zvZ hs,zrP,beq_self_eq_true,zap,zrI,znM]
 rfl
theorem zJs (s:GSetup) (n:Int) (hl:s.Seeds.length≤1000000):cw zhK [.agg (zat s),I n] []=some (zfb (seedR (seedOf s.Seeds n))):=by
 refine zuJ s n ?_
 refine zhH s.Seeds (fun y=>y.Script == n) (fun i=>zem s n i) (fun o=>zfb (seedR o)) ?_ ?_ ?_
 · refine zgE _ _ _ ?_
   simp (disch:=omega) only [List.length_map,zaq]
   rfl
 · intro i hi h
   refine zgE _ _ _ ?_
   simp (disch:=omega) only [List.length_map,zak,zac,Int.toNat_natCast,zsr,List.getElem?_eq_getElem hi,Option.bind_some,h,zap]
   rfl
 · intro i hi y h hk
   refine zgE _ _ _ ?_
   simp (disch:=omega) only [List.length_map,zak,zac,Int.toNat_natCast,zsr,List.getElem?_eq_getElem hi,Option.bind_some,h,zai,w64_id,hk]
def countG (m:GMarking) (n p:Int):List GGiven:=m.Given.filter fun g=>g.Script == n && g.Part == p
theorem c_Counting (m:GMarking) (n p:Int) (hl:m.Given.length≤1000000):cw znb [.agg (zbk m),I n,I p] []=some (zin (countG m n p)):=by
 refine zAx m n p ?_
 refine zaZ m.Given (fun i r=>∀ out:List GGiven,(out.length:Int)≤i→zdS m n p (List.map zao out) i=some (zin (out++r.filter fun g=>g.Script == n && g.Part == p))) ?_ ?_ [] (by simp)
 · intro out _
   refine zru _ _ _ _ _ ?_
   simp (disch:=omega) only [List.length_map,zaq,zaC,List.filter_nil,List.append_nil]
   rfl
 · intro i hi r _ ih out ho
   refine zru _ _ _ _ _ ?_
   simp (disch:=omega) only [List.length_map,zak,zac,Int.toNat_natCast,zbP,List.getElem?_eq_getElem hi,Option.bind_some,zaC,zbu zao,w64_id,List.filter_cons]
   cases m.Given[i].Script == n with
   | false =>
     simp only [zai,Bool.false_and,Bool.false_eq_true,if_false]
     exact ih out (by omega)
   | true =>
     simp only [zap,Bool.true_and]
     cases m.Given[i].Part == p with
     | false =>
       simp only [zai,Bool.false_eq_true,if_false]
       exact ih out (by omega)
     | true =>
       simp only [zap,if_true]
       have:=ih (out++[m.Given[i]]) (by simp; omega)
       rw [List.append_assoc,List.singleton_append] at this
       exact this
noncomputable def verdAt (r:GMarkRule) (m:GMarking) (x:GScript) (p:GPaper) (c:GScheme) (o:Option (Nat×GSeed)) (i:Nat):GVerdict:=
 match p.Parts[i]?,c.Withdrawn[i]? with
 | some y,some w =>
   if y.Kind=2∨w≠0 then ⟨3,if 0 > zcN p c x.Answers i then 0 else zcN p c x.Answers i⟩
   else match o with
    | some (_,sd)=>⟨3,sd.Marks.getD i 0⟩
    | none=>zfi r (countG m x.Number i)
 | _,_=>⟨0,0⟩
noncomputable def verdL (r:GMarkRule) (m:GMarking) (x:GScript) (p:GPaper) (c:GScheme) (o:Option (Nat×GSeed)):List GVerdict:=(List.range p.Parts.length).map (verdAt r m x p c o)
noncomputable def verdS (r:GMarkRule) (s:GSetup) (m:GMarking) (x:GScript):List GVerdict:=
 match zhu s.Papers x with
 | some (k,p)=>verdL r m x p ((s.Schemes[k]?).getD ⟨[],[]⟩) (seedOf s.Seeds x.Number)
 | none=>[]
def SmallM (m:GMarking):Prop:=m.Given.length≤1000000∧∀ g∈m.Given,g.Value≤1099511627776
theorem SmallM.count {m:GMarking} (h:SmallM m) (n p:Int):(countG m n p).length≤1000000∧∀ g∈countG m n p,g.Value≤1099511627776:=
 ⟨Nat.le_trans (List.length_filter_le _ _) h.1,fun g hg=>h.2 g (List.mem_filter.1 hg).1⟩
theorem c_verdicts (r:GMarkRule) (s:GSetup) (hs:OkSetup s) (m:GMarking) (hm:SmallM m) (x:GScript) (hx:x∈s.Scripts) :
  cw zjm [.agg (zaU r),.agg (zat s),.agg (zbk m),.agg (zaw x)] []=some (zeg (verdS r s m x)):=by
 have hx60:=hs.scripts.1
 have hp32:=hs.papers
 have hsd:=hs.seeds
 obtain ⟨k,p,c,hk,hc,ha⟩:=hs.script x hx
 have hpk:=(ziI hk).1
 have hok:=hs.schemes k p c hpk hc
 have hparts:=hok.1.2.2.1
 have hwl:=hok.2.2.1
 have hpo:zgy s x.Number=some (k,p):=by unfold zgy; rw [zkj hs.scripts.2.2 hx]; exact hk
 obtain ⟨rc,erc,hrc,hrc2⟩:=zv2 p c x.Answers (hs.short c (List.mem_of_getElem? hc))
 have hz:=hrc.2 ⟨hok,ha⟩
 have hcl:=hrc2 hz
 obtain ⟨rc1,rc2⟩:=rc
 simp only at hz hcl
 subst hz
 subst hcl
 unfold verdS
 rw [hk]
 dsimp only
 rw [hc]
 refine zwB r s m x ?_
 simp (disch:=omega) only [zGD s x.Number (show s.Scripts.length≤1000000 by omega) (show s.Papers.length≤1000000 by omega),hpo,ixR,zx1,zac,Int.toNat_natCast,zdN,hpk,Option.bind_some,zo4,hc,erc,zzS,
  zJs s x.Number (show s.Seeds.length≤1000000 by omega),zsj,List.length_map,zaC,eq_self,zxi zaM,Option.getD_some]
 rw [← mkN_zero p.Parts.length (verdAt r m x p c (seedOf s.Seeds x.Number)) ⟨0,0⟩]
 refine zaZ p.Parts (fun i _=>zcR r m x p c (zdC p c x.Answers,0) (seedR (seedOf s.Seeds x.Number)) (List.map zaM (mkN p.Parts.length (verdAt r m x p c (seedOf s.Seeds x.Number)) ⟨0,0⟩ i.toNat)) i=some (zeg (verdL r m x p c (seedOf s.Seeds x.Number)))) ?_ ?_
 · refine zmV _ _ _ _ _ _ _ _ _ ?_
   simp (disch:=omega) only [List.length_map,List.length_replicate,Int.toNat_natCast,zaq,zuw,mkN_all,List.length_range,eq_self,zaC]
   rfl
 · intro i hi _ _ ih
   have hiw:i < c.Withdrawn.length:=by omega
   have hix:((i:Int)+1).toNat=i+1:=by omega
   rw [hix] at ih
   have hcl:i < (zdC p c x.Answers).length:=by simp [zdC]; omega
   have hcv:(zdC p c x.Answers)[i]=zcN p c x.Answers i:=by simp [zdC]
   have hset:∀ v,v=verdAt r m x p c (seedOf s.Seeds x.Number) i→List.map zaM ((mkN p.Parts.length (verdAt r m x p c (seedOf s.Seeds x.Number)) ⟨0,0⟩ i).set i v)=List.map zaM (mkN p.Parts.length (verdAt r m x p c (seedOf s.Seeds x.Number)) ⟨0,0⟩ (i+1)):=fun v hv=>by rw [zxv hv]
   have m1011:(p.Parts[i].Kind=2∨c.Withdrawn[i]≠0)→zd5 r m x p c (zdC p c x.Answers,0) (seedR (seedOf s.Seeds x.Number)) (List.map zaM (mkN p.Parts.length (verdAt r m x p c (seedOf s.Seeds x.Number)) ⟨0,0⟩ i)) i=some (zeg (verdL r m x p c (seedOf s.Seeds x.Number))):=by
    intro hor
    refine zta _ _ _ _ _ _ _ _ _ ?_
    simp (disch:=omega) only [List.length_map,List.length_replicate,Int.toNat_natCast,Nat.zero_add,zac,zbi,List.getElem?_eq_getElem hcl,Option.bind_some,hcv,zjV,zBy hi,zc6 zaM,w64_id]
    rw [hset _ (by unfold verdAt; rw [List.getElem?_eq_getElem hi,List.getElem?_eq_getElem hiw]; dsimp only; rw [if_pos hor])]
    exact ih
   refine zmV _ _ _ _ _ _ _ _ _ ?_
   simp (disch:=omega) only [List.length_map,List.length_replicate,Int.toNat_natCast,Nat.zero_add,zak,zac,zdk,List.getElem?_eq_getElem hi,Option.bind_some,zbi,List.getElem?_eq_getElem hiw]
   by_cases h1:p.Parts[i].Kind=2
   · simp only [show (p.Parts[i].Kind == 2)=true by simpa using h1,zap]
     exact m1011 (Or.inl h1)
   · simp only [show (p.Parts[i].Kind == 2)=false by simpa using h1,zai]
     by_cases h2:c.Withdrawn[i]=0
     · simp only [show (c.Withdrawn[i] != 0)=false by simpa using h2,zai]
       have hva:verdAt r m x p c (seedOf s.Seeds x.Number) i=match seedOf s.Seeds x.Number with
         | some (_,sd)=>⟨3,sd.Marks.getD i 0⟩
         | none=>zfi r (countG m x.Number i):=by
        unfold verdAt
        rw [List.getElem?_eq_getElem hi,List.getElem?_eq_getElem hiw]
        dsimp only
        rw [if_neg (by rintro (h | h) <;> contradiction)]
       cases ho:seedOf s.Seeds x.Number with
       | some q =>
         obtain ⟨q,sd⟩:=q
         obtain ⟨k',p',hpo',hmk⟩:=zuo hs ho
         rw [hpo] at hpo'
         cases hpo'
         have him:i < sd.Marks.length:=by have:=hmk.1; omega
         rw [ho] at hset hva ih
         simp (disch:=omega) only [seedR,zap,zbi,List.getElem?_eq_getElem him,Option.bind_some,zjV,zBy hi,zac,zc6 zaM,w64_id]
         rw [hset _ (by rw [hva]; simp [him])]
         simp only [seedR] at ih
         exact ih
       | none =>
         rw [ho] at hset hva ih
         have hct:=hm.count x.Number i
         simp (disch:=omega) only [seedR,zai,c_Counting m x.Number i hm.1,zwP,List.length_map,Nat.le_refl,zaC]
         rw [List.take_of_length_le (by simp)]
         simp (disch:=omega) only [c_Decide r _ hct.1 hct.2,zuS,zjV,zBy hi,Option.bind_some,zac,zc6 zaM,w64_id]
         rw [hset _ hva.symm]
         simp only [seedR] at ih
         exact ih
     · simp only [show (c.Withdrawn[i] != 0)=true by simpa using h2,zap]
       exact m1011 (Or.inr h2)
theorem c_Verdicts (r:GMarkRule) (s:GSetup) (hs:OkSetup s) (m:GMarking) (hm:SmallM m) (n:Int) :
  cw zjj [.agg (zaU r),.agg (zat s),.agg (zbk m),I n] []=some (zf2 (if chkR r=0 then match zd0 s.Scripts n with | some x=>(verdS r s m x,0) | none=>([],4) else ([],1))):=by
 have hx60:=hs.scripts.1
 refine zwq r s m n ?_
 simp only [c_right r s hs,zvB]
 by_cases hr:chkR r=0
 · rw [if_pos hr]
   simp only [show (chkR r == 0)=true by simpa using hr,Bool.not_true,zai]
   have key:=zhH s.Scripts (fun x=>x.Number == n) (fun i=>zeW r s m n i) (fun o=>zf2 (match o.map (·.2) with | some x=>(verdS r s m x,0) | none=>([],4))) ?_ ?_ ?_
   · exact key
   · refine zhN _ _ _ _ _ ?_
     simp (disch:=omega) only [List.length_map,zaq]
     rfl
   · intro i hi h
     refine zhN _ _ _ _ _ ?_
     simp (disch:=omega) only [List.length_map,zak,zac,Int.toNat_natCast,zej,List.getElem?_eq_getElem hi,Option.bind_some,h,zap,c_verdicts r s hs m hm _ (List.getElem_mem hi),ztL,Nat.zero_add,Nat.le_refl,zaC]
     rw [List.take_of_length_le (by simp)]
     rfl
   · intro i hi y h hk
     refine zhN _ _ _ _ _ ?_
     simp (disch:=omega) only [List.length_map,zak,zac,Int.toNat_natCast,zej,List.getElem?_eq_getElem hi,Option.bind_some,h,zai,w64_id,hk]
 · rw [if_neg hr]
   simp only [show (chkR r == 0)=false by simpa using hr,Bool.not_false,zap]
   rfl
end Go.Proofs.YticojpmhlhfhlaaGreat
namespace Go.Proofs.YticojpmhlhfhlaaGreat
open Go.Ab
set_option linter.unusedSimpArgs false
end Go.Proofs.YticojpmhlhfhlaaGreat
