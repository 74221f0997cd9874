/- Loops and branches of printed trees. -/
import Derived.Test.YtikogkgdkdmljaaGreatK5
import Derived.Test.YtikogkgdkdmljaaGreatAb9
set_option linter.unusedSimpArgs false
set_option linter.unusedVariables false
noncomputable section
namespace Go.Proofs.YtikogkgdkdmljaaGreat
open Go.Ab
theorem w6Q {n:Int} (h1:-9223372036854775808≤n:=by omega) (h2:n < 9223372036854775808:=by omega):w64 n=n:=w64_id h1 h2
theorem iNQ {c:Prop} [Decidable c] {α:Type} {t e:α} (h:¬c:=by omega):ite c t e=e:=if_neg h
theorem iPQ {c:Prop} [Decidable c] {α:Type} {t e:α} (h:c:=by omega):ite c t e=t:=if_pos h
theorem iNs {c:Prop} [Decidable c] {α:Type} {t e:α} (h:¬c:=by simp):ite c t e=e:=if_neg h
theorem cPQ {p:Prop} {β:Type} {x:Option β} (h:p:=by omega):chk p x=x:=zak h x
theorem zbi {p:Prop} (h:p):dec p=true:=by unfold dec; simp [h]
theorem za3 {p:Prop} (h:¬p):dec p=false:=by unfold dec; simp [h]
theorem zfj {p q:Prop} (h:p↔q):dec p=dec q:=by rw [propext h]
theorem zrC {p:Prop}:dec p=true↔p:=by unfold dec; simp
theorem zei {b:Bool} {p:Prop} (h:b=true↔p):b=dec p:=by
 by_cases hp:p
 · rw [zbi hp]; exact h.2 hp
 · rw [za3 hp]; cases b with
   | true=>exact absurd (h.1 rfl) hp
   | false=>rfl
theorem zdS {β:Type} (b:Bool) (t e:Option β):brn b t e=if b=true then t else e:=by cases b <;> rfl
variable {α β:Type}
theorem zdi (l:List α) (P:Int→List α→Prop) (h0:P l.length [])
  (hs:∀ (i:Nat) (hi:i < l.length) (r:List α),l.drop (i+1)=r→P ((i:Int)+1) r→P i (l[i] :: r)):P 0 l:=by
 have key:∀ (n i:Nat),i+n=l.length→P (i:Int) (l.drop i):=by
  intro n
  induction n with
  | zero=>intro i hi; have:l.drop i=[]:=zkT (by omega); rw [this,show i=l.length by omega]; exact h0
  | succ n ih =>
    intro i hi; have hlt:i < l.length:=by omega
    rw [zdn hlt]; have:=ih (i+1) (by omega); rw [zqc] at this; exact hs i hlt _ rfl this
 have:=key l.length 0 (by omega); simpa using this
theorem zmz (n:Nat) (G:∀ j,j < n→Prop) (K:Int→Option β) (S:β→Prop) (z:β) (h0:(∀ j hj,G j hj)→K n=some z)
  (hno:∀ (i:Nat) (hi:i < n),(∀ j (hj:j < i),G j (by omega))→¬ G i hi→∃ y,S y∧K i=some y) (hyes:∀ (i:Nat) (hi:i < n) (y:β),G i hi→K ((i:Int)+1)=some y→K i=some y):((∀ j hj,G j hj)∧K 0=some z)∨((∃ j hj,¬ G j hj)∧∃ y,S y∧K 0=some y):=by
 have key:∀ (m i:Nat),i+m=n→(∀ j (hj:j < i) (hn:j < n),G j hn)→((∀ j hj,i≤j→G j hj)∧K (i:Int)=some z)∨((∃ j hj,¬ G j hj)∧∃ y,S y∧K (i:Int)=some y):=by
  intro m
  induction m with
  | zero=>intro i hi hpre; left; refine ⟨fun j hj h=>by omega,?_⟩; rw [show i=n by omega,h0 (fun j hj=>hpre j (by omega) hj)]
  | succ m ih =>
    intro i hi hpre; by_cases hg:G i (by omega)
    · have:=ih (i+1) (by omega) (fun j hj hn=>by
       by_cases e:j=i
       · subst e; exact hg
       · exact hpre j (by omega) hn)
      rw [zqc] at this; rcases this with ⟨h1,h2⟩ | ⟨h1,y,h2,h3⟩
      · left; refine ⟨fun j hj h=>?_,hyes i (by omega) z hg h2⟩; by_cases e:j=i
        · subst e; exact hg
        · exact h1 j hj (by omega)
      · exact .inr ⟨h1,y,h2,hyes i (by omega) y hg h3⟩
    · exact .inr ⟨⟨i,by omega,hg⟩,hno i (by omega) (fun j hj=>hpre j hj _) hg⟩
 rcases key n 0 (by omega) (fun j hj=>by omega) with ⟨h1,h2⟩ | h
 · exact .inl ⟨fun j hj=>h1 j hj (zkX _),h2⟩
 · exact .inr h
theorem ziB (n:Nat) (G:∀ j,j < n→Prop) (K:Int→Option β) (q:Bool→β) (h0:K n=some (q true))
  (hno:∀ (i:Nat) (hi:i < n),¬ G i hi→K i=some (q false)) (hyes:∀ (i:Nat) (hi:i < n) (y:β),G i hi→K ((i:Int)+1)=some y→K i=some y):K 0=some (q (dec (∀ j hj,G j hj))):=by
 rcases zmz n G K (fun x=>x=q false) (q true) (fun _=>h0) (fun i hi _ h=>⟨_,rfl,hno i hi h⟩) hyes with ⟨h1,h2⟩ | ⟨⟨j,hj,h1⟩,y,rfl,h2⟩
 · rw [h2,zbi h1]
 · rw [h2,za3 (fun h=>h1 (h j hj))]
theorem any_bool (n:Nat) (G:∀ j,j < n→Prop) (K:Int→Option β) (q:Bool→β) (h0:K n=some (q false))
  (hyes:∀ (i:Nat) (hi:i < n),G i hi→K i=some (q true)) (hno:∀ (i:Nat) (hi:i < n) (y:β),¬ G i hi→K ((i:Int)+1)=some y→K i=some y):K 0=some (q (dec (∃ j hj,G j hj))):=by
 have h:=ziB n (fun i hi=>¬ G i hi) K (fun b=>q (!b)) (by simpa using h0) (fun i hi hg=>by simpa using hyes i hi (Classical.not_not.1 hg)) hno; rw [h]; congr 2; by_cases hp:∃ j hj,G j hj
 · rw [zbi hp,za3 (fun h=>by obtain ⟨j,h1,h2⟩:=hp; exact h j h1 h2)]; rfl
 · rw [za3 hp,zbi (fun j h1 h2=>hp ⟨j,h1,h2⟩)]; rfl
theorem all_err (n:Nat) (G:∀ j,j < n→Prop) (K:Int→Option β) (q:Int→β) (h0:K n=some (q 0))
  (hno:∀ (i:Nat) (hi:i < n),¬ G i hi→∃ e,e≠0∧K i=some (q e)) (hyes:∀ (i:Nat) (hi:i < n) (y:β),G i hi→K ((i:Int)+1)=some y→K i=some y):∃ e,K 0=some (q e)∧(e=0↔∀ j hj,G j hj):=by
 rcases zmz n G K (fun x=>∃ e,e≠0∧x=q e) (q 0) (fun _=>h0) (fun i hi _ h=>by obtain ⟨e,h1,h2⟩:=hno i hi h; exact ⟨_,⟨e,h1,rfl⟩,h2⟩) hyes with ⟨h1,h2⟩ | ⟨⟨j,hj,h1⟩,y,⟨e,h2,rfl⟩,h3⟩
 · exact ⟨0,h2,by simp; exact h1⟩
 · exact ⟨e,h3,fun h=>absurd h h2,fun h=>absurd (h j hj) h1⟩
theorem all_from (s n:Nat) (hs:s≤n) (G:∀ j,s≤j→j < n→Prop) (K:Int→Option β) (q:Bool→β) (h0:K n=some (q true))
  (hno:∀ (i:Nat) (hs:s≤i) (hi:i < n),¬ G i hs hi→K i=some (q false)) (hyes:∀ (i:Nat) (hs:s≤i) (hi:i < n) (y:β),G i hs hi→K ((i:Int)+1)=some y→K i=some y):K s=some (q (dec (∀ j hs hj,G j hs hj))):=by
 have h:=ziB (n - s) (fun j hj=>G (s+j) (by omega) (by omega)) (fun i=>K (s+i)) q (by rw [show ((s:Int)+((n - s:Nat):Int))=n by omega]; exact h0)
  (fun i hi hg=>by have:=hno (s+i) (by omega) (by omega) hg; rw [zqc] at this; exact this)
  (fun i hi y hg hk=>by
   have:=hyes (s+i) (by omega) (by omega) y hg (by rw [zqc,Int.add_assoc]; exact hk)
   rw [zqc] at this; exact this)
 rw [Int.add_zero] at h; rw [h]; congr 2; refine zfj ⟨fun h j h1 h2=>?_,fun h j hj=>h (s+j) (by omega) (by omega)⟩; have:=h (j - s) (by omega); simpa only [show s+(j - s)=j by omega] using this
theorem znV {l:List α} {G:α→Prop}:(∀ j (hj:j < l.length),G l[j])↔∀ x∈l,G x:=by
 constructor
 · intro h x hx; obtain ⟨j,hj,rfl⟩:=zl6.1 hx; exact h j hj
 · exact fun h j hj=>h _ (zbc hj)
theorem zea {i:Nat} (h:0 < i):((i:Int) - 1).toNat=i - 1:=by omega
theorem zsh {f:α→Int} {l:List α}:(∀ i (hi:i < l.length),∀ h:0 < i,f (l[i - 1]'(by omega)) < f l[i])↔AscBy f l:=by
 constructor
 · intro h j hj; exact h (j+1) hj (by omega)
 · intro h i hi h0; have:=h (i - 1) (by omega); simp only [show i - 1+1=i by omega] at this; exact this
theorem asc_lt {f:α→Int} {l:List α} (h:AscBy f l):∀ (i j:Nat) (hj:j < l.length) (hij:i < j),f (l[i]'(by omega)) < f l[j]:=by
 intro i j hj hij; obtain ⟨d,rfl⟩:∃ d,j=i+1+d:=⟨j - i - 1,by omega⟩
 induction d with
 | zero=>exact h i hj
 | succ d ih=>have h1:=ih (by omega) (by omega); have h2:=h (i+1+d) (by omega); have:l[i+1+(d+1)]'hj=l[i+1+d+1]'(by omega):=rfl; rw [this]; exact Int.lt_trans h1 h2
theorem fnd_some {p:α→Bool}:∀ {l:List α} {i j:Nat} {x:α},fnd p i l=some (j,x)→i≤j∧l[j - i]?=some x∧p x=true∧∀ k y,k < j - i→l[k]?=some y→p y=false
 | [],i,j,x,h=>by simp [fnd] at h
 | a :: l,i,j,x,h=>by
   simp only [fnd] at h; split at h
   · rename_i ha; simp only [zaw,zaK] at h; obtain ⟨rfl,rfl⟩:=h; exact ⟨zbR _,by simp,ha,fun k y hk=>by omega⟩
   · rename_i ha; obtain ⟨h1,h2,h3,h4⟩:=fnd_some h; have e:j - i=(j - (i+1))+1:=by omega
     refine ⟨by omega,by rw [e]; simpa using h2,h3,fun k y hk hy=>?_⟩
     cases k with
     | zero=>simp at hy; subst hy; simpa using ha
     | succ k=>exact h4 k y (by omega) (by simpa using hy)
theorem fnd_at {p:α→Bool} {l:List α} {j:Nat} {x:α} (h:fnd p 0 l=some (j,x)):l[j]?=some x∧p x=true∧∀ k y,k < j→l[k]?=some y→p y=false:=by have:=(fnd_some h).2; simpa using this
theorem zn7 {p:α→Bool}:∀ {l:List α} {i:Nat},fnd p i l=none↔∀ x∈l,p x=false
 | [],i=>by simp [fnd]
 | a :: l,i=>by
   simp only [fnd]; split
   · rename_i ha; simp [ha]
   · rename_i ha; rw [zn7]; simp only [za6,forall_eq_or_imp]; exact ⟨fun h=>⟨by simpa using ha,h⟩,fun h=>h.2⟩
theorem fnd_of {p:α→Bool} {l:List α} {j:Nat} {x:α} (hx:l[j]?=some x) (hp:p x=true) (hk:∀ k y,k < j→l[k]?=some y→p y=false):fnd p 0 l=some (j,x):=by
 cases h:fnd p 0 l with
 | none=>have:=zn7.1 h x (zbN hx); rw [hp] at this; cases this
 | some q =>
   obtain ⟨i,y⟩:=q; obtain ⟨h1,h2,h3⟩:=fnd_at h; rcases Nat.lt_trichotomy i j with c | c | c
   · have:=hk i y c h1; rw [h2] at this; cases this
   · subst c; rw [hx] at h1; injection h1 with h1; rw [h1]
   · have:=h3 j x c hx; rw [hp] at this; cases this
theorem zfG (l:List α) (p:α→Bool) (K:Int→Option β) (R:Option (Nat×α)→β) (h0:K l.length=some (R none))
  (hyes:∀ (i:Nat) (hi:i < l.length),p l[i]=true→K i=some (R (some (i,l[i])))) (hno:∀ (i:Nat) (hi:i < l.length) (y:β),p l[i]=false→K ((i:Int)+1)=some y→K i=some y):K 0=some (R (fnd p 0 l)):=by
 have H:=zmz l.length (fun j hj=>p l[j]=false) K (fun y=>∃ i x,fnd p 0 l=some (i,x)∧y=R (some (i,x))) (R none) (fun _=>h0)
  (fun i hi hpre hn=>⟨_,⟨i,l[i],fnd_of (zaz hi) (by simpa using hn) (fun k y hk hy=>by
   obtain ⟨hk',rfl⟩:=zbt.1 hy
   exact hpre k hk),rfl⟩,hyes i hi (by simpa using hn)⟩) hno
 rcases H with ⟨h1,h2⟩ | ⟨_,y,⟨i,x,h2,rfl⟩,h3⟩
 · rw [h2,zn7.2 ((znV (G:=fun x=>p x=false)).1 h1)]
 · rw [h3,h2]
def mkN (n:Nat) (f:Nat→α) (d:α) (i:Nat):List α:=(List.range n).map fun j=>if j < i then f j else d
theorem ztH (n:Nat) (f:Nat→α) (d:α) (i:Nat):(mkN n f d i).length=n:=by simp [mkN]
theorem mkN_get {n:Nat} {f:Nat→α} {d:α} {i:Nat} (h:i < n):(mkN n f d i)[i]?=some d:=by simp [mkN,h]
theorem mkN_zero (n:Nat) (f:Nat→α) (d:α):mkN n f d 0=List.replicate n d:=by unfold mkN; simp only [Nat.not_lt_zero,if_false,List.map_const',aLiAs15]
theorem zvP {n:Nat} {f:Nat→α} {d:α} {i:Nat} {v:α} (hv:v=f i):(mkN n f d i).set i v=mkN n f d (i+1):=by
 subst hv; apply zkd; intro j; by_cases hj:j < n
 · by_cases e:i=j
   · subst e; rw [List.getElem?_set_self (by rw [ztH]; exact hj)]; simp [mkN,hj]
   · rw [List.getElem?_set_ne e]; simp only [mkN,zcY,znF hj,zcO]; congr 1; by_cases h:j < i
     · rw [if_pos h,iPQ]
     · rw [if_neg h,iNQ]
 · rw [zpP (by rw [zqd,ztH]; omega),zpP (by rw [ztH]; omega)]
theorem mkN_same {n:Nat} {f:Nat→α} {d:α} {i:Nat} (h:f i=d):mkN n f d i=mkN n f d (i+1):=by
 unfold mkN; apply zjq; intro j _; by_cases c:j < i
 · rw [if_pos c,iPQ]
 · by_cases e:j=i
   · subst e; rw [if_neg c,iPQ,h]
   · rw [if_neg c,iNQ]
theorem mkN_all (n:Nat) (f:Nat→α) (d:α):mkN n f d n=(List.range n).map f:=by unfold mkN; apply zjq; intro j hj; rw [if_pos (ziy.1 hj)]
theorem zkF {γ:Type} (f:α→γ) (l:List α) (i:Nat) (a:α):(List.map f l).set i (f a)=List.map f (l.set i a):=List.map_set.symm
theorem zcl {γ:Type} (f:α→γ) (l:List α) (a:α):List.map f l++[f a]=List.map f (l++[a]):=by simp
theorem map_rep {γ:Type} (f:α→γ) (n:Nat) (a:α):List.replicate n (f a)=List.map f (List.replicate n a):=by simp
theorem take_len (l:List α):List.take l.length l=l:=znG
instance (p:GPart):Decidable (OkPart p):=by unfold OkPart; infer_instance
theorem zqo (p:GPart):cw zma [.agg (zaL p)] []=some (zag (dec (OkPart p))):=by
 refine zxy p ?_; simp only [zdS,decide_eq_true_eq,beq_iff_eq]
 repeat' split
 all_goals first
  | (rw [za3 (by unfold OkPart; omega)]; rfl)
  | (rw [show (p.Key == 0)=dec (OkPart p) from zei (by simp only [beq_iff_eq]; unfold OkPart; omega)]; rfl)
  | (rw [show decide (p.Key < p.Options)=dec (OkPart p) from zei (by simp only [decide_eq_true_eq]; unfold OkPart; omega)]; rfl)
theorem zpn (p:GPart):cw zlx [.agg (zaL p)] []=some (zag (dec (OkPart p))):=by
 refine zwn p ?_; simp only [zdS,decide_eq_true_eq,beq_iff_eq]
 repeat' split
 all_goals first
  | (rw [za3 (by unfold OkPart; omega)]; rfl)
  | (rw [show (p.Key == 0)=dec (OkPart p) from zei (by simp only [beq_iff_eq]; unfold OkPart; omega)]; rfl)
  | (rw [show decide (p.Key < p.Options)=dec (OkPart p) from zei (by simp only [decide_eq_true_eq]; unfold OkPart; omega)]; rfl)
theorem zrU (p:GPart) (l:List GPart):sumMax (p :: l)=p.Max+sumMax l:=by simp [sumMax]
theorem zvC {l:List GPart} (h:∀ p∈l,OkPart p):0≤sumMax l∧sumMax l≤40*l.length:=by
 induction l with
 | nil=>simp [sumMax]
 | cons p l ih=>have h1:=ih (fun q hq=>h q (by simp [hq])); have h2:=(h p (by simp)).1; rw [zrU,zf2]; omega
theorem zyl (l:List GPart) (h:∀ p∈l,OkPart p) (hl:l.length≤24):cw zm3 [.sl 6 (List.map zaL l)] []=some (zbk (sumMax l)):=by
 refine zyx l ?_; have hb:=zvC h; refine zdi l (fun i r=>∀ s:Int,0≤s→0≤sumMax r→s+sumMax r=sumMax l→zhX l s i=some (zbk (sumMax l))) ?_ ?_ 0 (by omega) (by omega) (by omega)
 · intro s _ _ hs; refine zps l _ _ ?_; simp (disch:=omega) [zaI]; rw [← hs]; simp [sumMax]; rfl
 · intro i hi r hr ih s h0 h1 hs; refine zps l _ _ ?_; have hm:=(h l[i] (zbc hi)).1; rw [zrU] at hs h1; have hr0:0≤sumMax r:=(zvC (l:=r) (fun q hq=>h q (by rw [← hr] at hq; exact zkS hq))).1; simp (disch:=omega) [zaA,zak,w64_id]; exact ih _ (by omega) hr0 (by omega)
theorem zwb (p:zaE):cw zlt [.agg (zaG p)] []=some (zag (dec (zfe p))):=by
 refine zwg p ?_; by_cases hh:((0≤p.Code∧p.Code≤31)∧(0≤p.Variant∧p.Variant < 4)∧(1≤p.Parts.length∧p.Parts.length≤24))
 · simp (disch:=omega) only [zal,zaI]
   have hg:=fun z h0=>zmz p.Parts.length (fun j hj=>OkPart p.Parts[j]) (fun i=>zgL p i) (fun y=>y=zag false) z h0
    (fun i hi _ hn=>⟨_,rfl,zjI p _ (by simp (disch:=omega) [zaA,zak,zqo,za3 hn]; rfl)⟩)
    (fun i hi y hy hk=>zjI p _ (by simp (disch:=omega) [zaA,zak,w64_id,zqo,zbi hy,hk]))
   rcases hg (zag (dec (zfe p))) (fun h=>zjI p _ (by
    have h':=znV.1 h; simp (disch:=omega) [zaI,zyl p.Parts h' (by omega)]; rw [show decide (sumMax p.Parts≤200)=dec (zfe p) from zei (by simp only [decide_eq_true_eq]; unfold zfe; exact ⟨fun h=>⟨hh.1,hh.2.1,hh.2.2,h',h⟩,fun h=>h.2.2.2.2⟩)]
    rfl)) with ⟨h1,h2⟩ | ⟨⟨j,hj,h1⟩,y,rfl,h3⟩
   · exact h2
   · rw [za3 (fun h=>h1 (h.2.2.2.1 _ (zbc hj)))]; exact h3
 · rw [za3 (fun h=>hh ⟨h.1,h.2.1,h.2.2.1⟩)]; simp only [zdS,decide_eq_true_eq,zal]
   repeat' split
   all_goals first
    | rfl
    | omega
theorem zuW (p:zaE):cw zkr [.agg (zaG p)] []=some (zag (dec (zfe p))):=by
 refine zvc p ?_; by_cases hh:((0≤p.Code∧p.Code≤31)∧(0≤p.Variant∧p.Variant < 4)∧(1≤p.Parts.length∧p.Parts.length≤24))
 · simp (disch:=omega) only [zal,zaI]; have key:=zdi p.Parts (fun i r=>∀ s:Int,0≤s→s≤40*i→(zfe p↔(∀ x∈r,OkPart x)∧s+sumMax r≤200)→zgi p s i=some (zag (dec (zfe p)))) ?_ ?_ 0 (by omega) (by omega) ?_
   · exact key
   · intro s h0 h1 hs; refine zns p _ _ ?_; simp (disch:=omega) only [zal,zaI]; rw [show decide (s≤200)=dec (zfe p) from zei (by rw [hs]; simp [sumMax])]; rfl
   · intro i hi r hr ih s h0 h1 hs; refine zns p _ _ ?_; by_cases hp:OkPart p.Parts[i]
     · have hm:=hp.1; simp (disch:=omega) [zaA,zak,w64_id,zpn,zbi hp]; refine ih _ (by omega) (by omega) (hs.trans ?_); rw [zrU]; constructor
       · rintro ⟨h2,h3⟩; exact ⟨fun x hx=>h2 x (by simp [hx]),by omega⟩
       · rintro ⟨h2,h3⟩
         refine ⟨fun x hx=>?_,by omega⟩; rcases za6.1 hx with rfl | hx
         · exact hp
         · exact h2 x hx
     · simp (disch:=omega) [zaA,zak,zpn,za3 hp]; rw [za3 (fun h=>hp ((hs.1 h).1 _ (by simp)))]; rfl
   · unfold zfe; constructor
     · intro h; exact ⟨h.2.2.2.1,by simpa using h.2.2.2.2⟩
     · intro h; exact ⟨hh.1,hh.2.1,hh.2.2,h.1,by simpa using h.2⟩
 · rw [za3 (fun h=>hh ⟨h.1,h.2.1,h.2.2.1⟩)]; simp only [zdS,decide_eq_true_eq,zal]
   repeat' split
   all_goals first
    | rfl
    | omega
theorem zCA {ks:List Int}:OkKeys 0 ks↔ks=[]:=by
 constructor
 · intro h
   cases ks with
   | nil=>rfl
   | cons k ks=>have:=h.1 k (by simp); omega
 · rintro rfl; exact ⟨by simp,fun j hj=>by simp at hj⟩
theorem ztN {o:Int} {ks:List Int}:(∀ j (hj:j < ks.length),(0≤ks[j]∧ks[j] < o)∧∀ h:0 < j,(ks[j - 1]'(by omega)) < ks[j])↔OkKeys o ks:=by unfold OkKeys; rw [← zsh,← znV]; exact ⟨fun h=>⟨fun j hj=>(h j hj).1,fun j hj=>(h j hj).2⟩,fun h j hj=>⟨h.1 j hj,h.2 j hj⟩⟩
theorem zkh (p:GPart) (ks:List Int) (hp:OkPart p) (hl:ks.length≤1000000):cw zkw [.agg (zaL p),.sl 1 (List.map zaj ks)] []=some (zag (dec (OkKeys p.Options ks))):=by
 refine zvg p ks ?_; by_cases hk:p.Kind=1
 · have ho:p.Options=0:=by unfold OkPart at hp; omega
   simp only [hk,beq_self_eq_true,zaF,zal]; rw [show ((ks.length:Int) == 0)=dec (OkKeys p.Options ks) from zei (by rw [ho,zCA]; simp)]; rfl
 · simp only [show (p.Kind == 1)=false by simpa using hk,zaq]; rw [← zfj ztN]; refine ziB ks.length _ (fun i=>ze5 p ks i) (fun b=>zag b) ?_ ?_ ?_
   · exact zi6 p ks _ (by simp (disch:=omega) only [zal,zaI]; rfl)
   · intro i hi hg; refine zi6 p ks _ ?_; by_cases h1:0≤ks[i]∧ks[i] < p.Options
     · have h0:0 < i:=by
        apply zsX
        rintro rfl
        exact hg ⟨h1,fun h=>absurd h (by omega)⟩
       have h2:¬ (ks[i - 1] < ks[i]):=fun h=>hg ⟨h1,fun _=>h⟩
       simp (disch:=omega) [zaA,zaI,zak,w64_id,zea h0]; rfl
     · by_cases h2:ks[i] < 0
       · simp (disch:=omega) [zaA,zak]; rfl
       · simp (disch:=omega) [zaA,zaI,zak]; rfl
   · intro i hi y hg hk'; refine zi6 p ks _ ?_; by_cases h0:0 < i
     · have h2:=hg.2 h0; have h1:=hg.1; simp (disch:=omega) [zaA,zaI,zak,w64_id,zea h0,hk']
     · have h1:=hg.1; simp (disch:=omega) [zaA,zaI,zak,w64_id,hk']
theorem zq9 (k:Int):cw zm9 [I k] []=some (zag (dec (0≤k∧k≤2))):=by
 refine zyE k ?_; simp only [zdS,beq_iff_eq]
 repeat' split
 all_goals first
  | (rw [zbi (by omega)]; rfl)
  | (rw [za3 (by omega)]; rfl)
theorem zvu {p:zaE} {s:zbl} (h1:s.Keys.length=p.Parts.length) (h2:s.Withdrawn.length=p.Parts.length) (hp:zfe p):(∀ j (hj:j < p.Parts.length),OkKeys p.Parts[j].Options (s.Keys[j]'(by omega))∧(0≤s.Withdrawn[j]'(by omega)∧s.Withdrawn[j]'(by omega)≤2))↔zee p s:=by
 unfold zee; constructor
 · intro h; refine ⟨hp,h1,h2,fun j x ks k a b c=>?_⟩; obtain ⟨hj,rfl⟩:=zbt.1 a; obtain ⟨_,rfl⟩:=zbt.1 b; obtain ⟨_,rfl⟩:=zbt.1 c; exact h j hj
 · intro h j hj; exact h.2.2.2 j _ _ _ (zaz hj) (zaz (by omega)) (zaz (by omega))
theorem zh6 (p:zaE) (s:zbl) (hs:Short s):cw zh9 [.agg (zaG p),.agg (zbA s)] []=some (zag (dec (zee p s))):=by
 refine zzy p s ?_; simp only [zwb,zam,zal]; by_cases hp:zfe p
 · by_cases h1:s.Keys.length=p.Parts.length
   · by_cases h2:s.Withdrawn.length=p.Parts.length
     · simp only [zbi hp,h1,h2,zbv,zaq,bne_self_eq_false]; have hpl:=hp.2.2.1; rw [← zfj (zvu h1 h2 hp)]; refine ziB p.Parts.length _ (fun i=>ziO p s i) (fun b=>zag b) ?_ ?_ ?_
       · exact zms p s _ (by simp (disch:=omega) only [zal,zaI]; rfl)
       · intro i hi hg; have hi1:i < s.Keys.length:=by omega
         have hi2:i < s.Withdrawn.length:=by omega
         refine zms p s _ ?_; have hx:=hp.2.2.2.1 _ (zbc hi); by_cases h3:OkKeys p.Parts[i].Options s.Keys[i]
         · have h4:¬ (0≤s.Withdrawn[i]∧s.Withdrawn[i]≤2):=fun h=>hg ⟨h3,h⟩
           simp (disch:=omega) [zaA,zak,zkh _ _ hx (hs _ (zbc hi1)),zbi h3,zq9,za3 h4]; rfl
         · simp (disch:=omega) [zaA,zak,zkh _ _ hx (hs _ (zbc hi1)),za3 h3]; rfl
       · intro i hi y hg hk'; have hi1:i < s.Keys.length:=by omega
         have hi2:i < s.Withdrawn.length:=by omega
         refine zms p s _ ?_; have hx:=hp.2.2.2.1 _ (zbc hi); simp (disch:=omega) [zaA,zak,w64_id,zkh _ _ hx (hs _ (zbc hi1)),zbi hg.1,zq9,zbi hg.2,hk']
     · rw [za3 (p:=zee p s) (fun h=>h2 h.2.2.1)]; simp only [zbi hp,h1,zbv,zaq,bne_self_eq_false,show ((s.Withdrawn.length:Int) != p.Parts.length)=true by simpa using (by omega:¬ ((s.Withdrawn.length:Int)=p.Parts.length)),zaF]; rfl
   · rw [za3 (p:=zee p s) (fun h=>h1 h.2.1)]; simp only [zbi hp,zbv,zaq,show ((s.Keys.length:Int) != p.Parts.length)=true by simpa using (by omega:¬ ((s.Keys.length:Int)=p.Parts.length)),zaF]; rfl
 · rw [za3 hp,za3 (fun h=>hp h.1)]; rfl
theorem zAx (p:zaE) (s:zbl) (hs:Short s):cw zo7 [.agg (zaG p),.agg (zbA s)] []=some (zag (dec (zee p s))):=by
 refine zAF p s ?_; simp only [zuW,zam,zal]; by_cases hp:zfe p
 · by_cases h1:s.Keys.length=p.Parts.length
   · by_cases h2:s.Withdrawn.length=p.Parts.length
     · simp only [zbi hp,h1,h2,zbv,zaq,bne_self_eq_false]; have hpl:=hp.2.2.1; rw [← zfj (zvu h1 h2 hp)]
       have inner:∀ (i:Nat) (hi:i < p.Parts.length) (y:AV×Mem),zhk p s ((i:Int)+1)=some y→(OkKeys p.Parts[i].Options (s.Keys[i]'(by omega))→zdK p s i 0=some y):=by
        intro i hi y hk hg; have hi1:i < s.Keys.length:=by omega
        have hlk:=hs _ (zbc hi1); have hg':=ztN.2 hg; refine zdi s.Keys[i] (fun j r=>zdK p s i j=some y) ?_ ?_
        · refine zj1 p s _ _ ?_; simp (disch:=omega) [zaI,zak,w64_id,hk]
        · intro j hj r hr ih; refine zj1 p s _ _ ?_; obtain ⟨g1,g2⟩:=hg' j hj; by_cases h0:0 < j
          · have g3:=g2 h0; simp (disch:=omega) [zaA,zaI,zak,w64_id,zea h0,ih]
          · simp (disch:=omega) [zaA,zaI,zak,w64_id,ih]
       have innerNo:∀ (i:Nat) (hi:i < p.Parts.length),¬ OkKeys p.Parts[i].Options (s.Keys[i]'(by omega))→zdK p s i 0=some (zag false):=by
        intro i hi hg; have hi1:i < s.Keys.length:=by omega
        have hlk:=hs _ (zbc hi1); rw [← ztN] at hg
        have hno:∀ j (hj:j < s.Keys[i].length),¬ ((0≤s.Keys[i][j]∧s.Keys[i][j] < p.Parts[i].Options)∧∀ h:0 < j,(s.Keys[i][j - 1]'(by omega)) < s.Keys[i][j])→zdK p s i j=some (zag false):=by
         intro j hj hn; refine zj1 p s _ _ ?_; by_cases g1:0≤s.Keys[i][j]∧s.Keys[i][j] < p.Parts[i].Options
         · have h0:0 < j:=by
            apply zsX
            rintro rfl
            exact hn ⟨g1,fun h=>absurd h (by omega)⟩
           have g2:¬ (s.Keys[i][j - 1] < s.Keys[i][j]):=fun h=>hn ⟨g1,fun _=>h⟩
           simp (disch:=omega) [zaA,zaI,zak,w64_id,zea h0]; rfl
         · by_cases g2:s.Keys[i][j] < 0
           · simp (disch:=omega) [zaA,zak]; rfl
           · simp (disch:=omega) [zaA,zaI,zak]; rfl
        rcases zmz s.Keys[i].length (fun j hj=>(0≤s.Keys[i][j]∧s.Keys[i][j] < p.Parts[i].Options)∧∀ h:0 < j,(s.Keys[i][j - 1]'(by omega)) < s.Keys[i][j])
         (fun j=>zdK p s i j) (fun y=>y=zag false) (zag false) (fun h=>absurd h hg) (fun j hj _ hn=>⟨_,rfl,hno j hj hn⟩) (fun j hj y g hk=>by
          refine zj1 p s _ _ ?_; obtain ⟨g1,g2⟩:=g; by_cases h0:0 < j
          · have g3:=g2 h0; simp (disch:=omega) [zaA,zaI,zak,w64_id,zea h0,hk]
          · simp (disch:=omega) [zaA,zaI,zak,w64_id,hk]) with ⟨_,h⟩ | ⟨_,y,rfl,h⟩
        · exact h
        · exact h
       refine ziB p.Parts.length _ (fun i=>zhk p s i) (fun b=>zag b) ?_ ?_ ?_
       · exact znt p s _ (by simp (disch:=omega) only [zal,zaI]; rfl)
       · intro i hi hg; have hi2:i < s.Withdrawn.length:=by omega
         refine znt p s _ ?_; by_cases h4:(0≤s.Withdrawn[i]∧s.Withdrawn[i]≤2)
         · have h3:=fun h=>hg ⟨h,h4⟩
           simp (disch:=omega) [zaA,zaI,zak,innerNo i hi h3]
         · by_cases h5:s.Withdrawn[i] < 0
           · simp (disch:=omega) [zaA,zak]; rfl
           · simp (disch:=omega) [zaA,zaI,zak]; rfl
       · intro i hi y hg hk'; have hi2:i < s.Withdrawn.length:=by omega
         have g2:=hg.2; refine znt p s _ ?_; simp (disch:=omega) [zaA,zaI,zak,inner i hi y hk' hg.1]
     · rw [za3 (p:=zee p s) (fun h=>h2 h.2.2.1)]; simp only [zbi hp,h1,zbv,zaq,bne_self_eq_false,show ((s.Withdrawn.length:Int) != p.Parts.length)=true by simpa using (by omega:¬ ((s.Withdrawn.length:Int)=p.Parts.length)),zaF]; rfl
   · rw [za3 (p:=zee p s) (fun h=>h1 h.2.1)]; simp only [zbi hp,zbv,zaq,show ((s.Keys.length:Int) != p.Parts.length)=true by simpa using (by omega:¬ ((s.Keys.length:Int)=p.Parts.length)),zaF]; rfl
 · rw [za3 hp,za3 (fun h=>hp h.1)]; rfl
theorem zeD (n:Int):cw ziF [I n] []=some (zag (dec (0≤n∧n≤31))):=by
 refine zxE n ?_; simp only [zdS,decide_eq_true_eq]; split
 · rw [show decide (n≤31)=dec (0≤n∧n≤31) from zei (by simp only [decide_eq_true_eq]; omega)]; rfl
 · rw [za3 (by omega)]; rfl
theorem zra (n:Int):cw zcc [I n] []=some (zag (!dec (0≤n∧n≤31))):=
 zrD n (by rw [zeD,zam]; rfl)
theorem zzl (l:List Int) (hl:l.length≤1000000):cw zbS [.sl 1 (List.map zaj l),.fn zcc []] []=some (zag (!dec (∀ n∈l,0≤n∧n≤31))):=by
 refine znx l ?_
 have key:∃ r,cw zb2 [.sl 1 (List.map zaj l),.fn zcc []] []=some (zbk r)∧(0≤r↔¬ ∀ n∈l,0≤n∧n≤31):=by
  have H:=zmz l.length (fun j hj=>0≤l[j]∧l[j]≤31) (fun i=>zd8 l i) (fun y=>∃ r:Int,0≤r∧y=zbk r) (zbk (-1)) ?_ ?_ ?_
  · rcases H with ⟨h1,h2⟩ | ⟨⟨j,hj,h1⟩,y,⟨r,h2,rfl⟩,h3⟩
    · refine ⟨-1,zjf l h2,?_⟩; have:=(znV (G:=fun n=>0≤n∧n≤31)).1 h1; exact ⟨fun h=>by omega,fun h=>absurd this h⟩
    · exact ⟨r,zjf l h3,fun _ h=>h1 (h _ (zbc hj)),fun _=>h2⟩
  · intro h; exact zfK l _ (by simp (disch:=omega) [zaI] <;> rfl)
  · intro i hi _ hg; refine ⟨_,⟨(i:Int),by omega,rfl⟩,zfK l _ ?_⟩; simp (disch:=omega) [zaA,zak,zra,za3 hg]; rfl
  · intro i hi y hg hk; refine zfK l _ ?_; simp (disch:=omega) [zaA,zak,w64_id,zra,zbi hg,hk]
 obtain ⟨r,h1,h2⟩:=key; rw [h1,za5]
 rw [show decide (0≤r)=!dec (∀ n∈l,0≤n∧n≤31) by
  by_cases hc:∀ n∈l,0≤n∧n≤31
  · rw [zbi hc]; simp only [zbv,decide_eq_false_iff_not]; exact fun h=>(h2.1 h) hc
  · rw [za3 hc]; simp only [zca,decide_eq_true_eq]; exact h2.2 hc]
 rfl
theorem zjb (m:zaW) (hl:m.Papers.length≤1000000):cw ziG [.agg (zaX m)] []=some (zag (dec (zit m))):=by
 refine ztp m ?_; simp only [zdS,decide_eq_true_eq]
 repeat' split
 all_goals first
  | (rw [za3 (by unfold zit; omega)]; rfl)
  | (rw [zzl _ hl,zam,Bool.not_not,zfj (p:=∀ n∈m.Papers,0≤n∧n≤31) (q:=zit m) ⟨fun h=>⟨by omega,by omega,by omega,by omega,h⟩,fun h=>h.2.2.2.2⟩]; rfl)
theorem zjM (l:List Int) (hl:l.length≤1000000):cw zm6 [.sl 1 (List.map zaj l)] []=some (zag (dec (AscBy id l))):=by
 refine zyy l ?_; by_cases h1:1≤l.length
 · have h:=all_from 1 l.length h1 (fun j h1 hj=>l[j - 1] < l[j]) (fun i=>zhY l i) (fun b=>zag b) ?_ ?_ ?_
   · rw [show ((1:Nat):Int)=1 from rfl] at h; rw [h]; congr 2; rw [← zsh]; exact zfj ⟨fun h i hi h0=>h i h0 hi,fun h j h1 hj=>h j hj h1⟩
   · exact zh4 _ _ (by simp (disch:=omega) [zaI] <;> rfl)
   · intro i h0 hi hg; refine zh4 _ _ ?_; simp (disch:=omega) [zaA,zak,w64_id,zea h0]; rfl
   · intro i h0 hi y hg hk; refine zh4 _ _ ?_; simp (disch:=omega) [zaA,zaI,zak,w64_id,zea h0,hk]
 · rw [zbi (p:=AscBy id l) (fun j hj=>by omega)]; exact zh4 _ _ (by simp (disch:=omega) [zaI] <;> rfl)
theorem zAN {l:List zaW} (hl:l.length≤16):(∀ j (hj:j < l.length),(zit l[j]∧AscBy id l[j].Papers)∧∀ h:0 < j,(l[j - 1]'(by omega)).ID < l[j].ID)↔zox l:=by unfold zox; rw [← zsh,← znV]; exact ⟨fun h=>⟨hl,fun j hj=>(h j hj).1,fun j hj=>(h j hj).2⟩,fun h j hj=>⟨h.2.1 j hj,h.2.2 j hj⟩⟩
theorem zzn (l:List zaW) (hs:∀ m∈l,m.Papers.length≤1000000):∃ e,cw zn1 [.sl 5 (List.map zaX l)] []=some (zbk e)∧(e=0↔zox l):=by
 by_cases hl:l.length≤16
 · have H:=all_err l.length (fun j hj=>(zit l[j]∧AscBy id l[j].Papers)∧∀ h:0 < j,(l[j - 1]'(by omega)).ID < l[j].ID) (fun i=>zgA l i) (fun e=>zbk e) ?_ ?_ ?_
   · obtain ⟨e,h1,h2⟩:=H; exact ⟨e,zsr l (by simp (disch:=omega) [zaI,h1]),h2.trans (zAN hl)⟩
   · exact zgF _ _ (by simp (disch:=omega) [zaI] <;> rfl)
   · intro i hi hg; have hp:=hs _ (zbc hi); by_cases h1:zit l[i]
     · by_cases h2:AscBy id l[i].Papers
       · have h0:0 < i:=by
          apply zsX
          rintro rfl
          exact hg ⟨⟨h1,h2⟩,fun h=>absurd h (by omega)⟩
         have h3:¬ (l[i - 1].ID < l[i].ID):=fun h=>hg ⟨⟨h1,h2⟩,fun _=>h⟩
         refine ⟨43,by omega,zgF _ _ ?_⟩; simp (disch:=omega) [zaA,zak,w64_id,zea h0,zjb _ hp,zbi h1,zjM _ hp,zbi h2]; rfl
       · refine ⟨43,by omega,zgF _ _ ?_⟩; simp (disch:=omega) [zaA,zak,zjb _ hp,zbi h1,zjM _ hp,za3 h2]; rfl
     · refine ⟨2,by omega,zgF _ _ ?_⟩; simp (disch:=omega) [zaA,zak,zjb _ hp,za3 h1]; rfl
   · intro i hi y hg hk; have hp:=hs _ (zbc hi); obtain ⟨⟨h1,h2⟩,h3⟩:=hg; refine zgF _ _ ?_; by_cases h0:0 < i
     · have h4:=h3 h0; simp (disch:=omega) [zaA,zaI,zak,w64_id,zea h0,zjb _ hp,zbi h1,zjM _ hp,zbi h2,hk]
     · simp (disch:=omega) [zaA,zaI,zak,w64_id,zjb _ hp,zbi h1,zjM _ hp,zbi h2,hk]
 · refine ⟨3,zsr l ?_,by omega,fun h=>absurd h.1 hl⟩; simp (disch:=omega) [zaA]; rfl
theorem zAO {l:List zaJ} (hl:l.length≤60):(∀ j (hj:j < l.length),zsR l[j]∧∀ h:0 < j,(l[j - 1]'(by omega)).Number < l[j].Number)↔zoy l:=by unfold zoy; rw [← zsh,← znV]; exact ⟨fun h=>⟨hl,fun j hj=>(h j hj).1,fun j hj=>(h j hj).2⟩,fun h j hj=>⟨h.2.1 j hj,h.2.2 j hj⟩⟩
theorem zsm (l:List zaJ):∃ e,cw zh7 [.sl 7 (List.map zaN l)] []=some (zbk e)∧(e=0↔zoy l):=by
 by_cases hl:l.length≤60
 · have H:=all_err l.length (fun j hj=>zsR l[j]∧∀ h:0 < j,(l[j - 1]'(by omega)).Number < l[j].Number) (fun i=>zeb l i) (fun e=>zbk e) ?_ ?_ ?_
   · obtain ⟨e,h1,h2⟩:=H; exact ⟨e,zmF l (by simp (disch:=omega) [zaI,h1]),h2.trans (zAO hl)⟩
   · exact zdm _ _ (by simp (disch:=omega) [zaI] <;> rfl)
   · intro i hi hg; by_cases h1:zsR l[i]
     · have h0:0 < i:=by
        apply zsX
        rintro rfl
        exact hg ⟨h1,fun h=>absurd h (by omega)⟩
       have h3:¬ (l[i - 1].Number < l[i].Number):=fun h=>hg ⟨h1,fun _=>h⟩
       refine ⟨43,by omega,zdm _ _ ?_⟩; obtain ⟨a1,a2,a3,a4,a5,a6⟩:=h1; simp (disch:=omega) [zaA,zaI,zak,w64_id,zea h0,zeD,zbi a1]; rw [← a5]; simp; rfl
     · by_cases a1:0≤l[i].Paper∧l[i].Paper≤31
       · by_cases a2:(0≤l[i].Candidate∧l[i].Candidate≤9999)∧(0≤l[i].Centre∧l[i].Centre≤99)∧(0≤l[i].Variant∧l[i].Variant≤31)
         · refine ⟨1,by omega,zdm _ _ ?_⟩; simp (disch:=omega) [zaA,zaI,zak,w64_id,zeD,zbi a1]; by_cases a3:l[i].Number=l[i].Paper*10000+l[i].Candidate
           · have a4:12 < (l[i].Pages.length:Int):=by apply Int.not_le.1; intro h; exact h1 ⟨a1,a2.1,a2.2.1,a2.2.2,a3,by omega⟩
             simp (disch:=omega) [a3,zaA]; rfl
           · simp [show (l[i].Number != l[i].Paper*10000+l[i].Candidate)=true by simpa using a3]; rfl
         · refine ⟨2,by omega,zdm _ _ ?_⟩; simp (disch:=omega) [zaA,zak,zeD,zbi a1]; simp only [zdS,decide_eq_true_eq]
           repeat' split
           all_goals first
            | rfl
            | omega
       · refine ⟨2,by omega,zdm _ _ ?_⟩; simp (disch:=omega) [zaA,zak,zeD,za3 a1]; rfl
   · intro i hi y hg hk; obtain ⟨h1,h3⟩:=hg; refine zdm _ _ ?_; obtain ⟨a1,a2,a3,a4,a5,a6⟩:=h1; by_cases h0:0 < i
     · have h4:=h3 h0; simp (disch:=omega) [zaA,zaI,zak,w64_id,zea h0,zeD,zbi a1,← a5,hk]
     · simp (disch:=omega) [zaA,zaI,zak,w64_id,zeD,zbi a1,← a5,hk]
 · refine ⟨3,zmF l ?_,by omega,fun h=>absurd h.1 hl⟩; simp (disch:=omega) [zaA]; rfl
theorem c_isScore (n:Int):cw zhV [I n] []=some (zag (dec (0≤n∧n≤200))):=by
 refine zwm n ?_; simp only [zdS,decide_eq_true_eq]; split
 · rw [show decide (n≤200)=dec (0≤n∧n≤200) from zei (by simp only [decide_eq_true_eq]; omega)]; rfl
 · rw [za3 (by omega)]; rfl
theorem zmY (r:za8) (h:OkMon r):cw zha [.agg (zbK r)] []=some (zbk 0):=by obtain ⟨h1,h2,h3,h4⟩:=h; refine zyC r ?_; simp (disch:=omega) [zaI,c_isScore,zbi h1,zbi h2]; rfl
theorem zyi (l:List Int) (n:Int) (hl:l.length≤1000000):cw zeS [.sl 1 (List.map zaj l),I n] []=some (zag (dec (n∈l))):=by
 refine zpy l n ?_; have key:=zfG l (fun x=>n == x) (fun i=>ze7 l n i) (fun o=>zbk (match o with | some (i,_)=>(i:Int) | none=>-1)) ?_ ?_ ?_
 · rw [zrI l n key,za5]
   cases hf:fnd (fun x=>n == x) 0 l with
   | none=>rw [za3 (fun h=>by have:=zn7.1 hf n h; simp at this)]; rfl
   | some q =>
     obtain ⟨i,x⟩:=q; obtain ⟨h1,h2,_⟩:=fnd_at hf; have:n=x:=by simpa using h2
     subst this; rw [zbi (zbN h1)]; show some (B (decide (0≤(i:Int))),[])=_; rw [show decide (0≤(i:Int))=true by simp]; rfl
 · exact zgH _ _ _ (by simp (disch:=omega) [zaI] <;> rfl)
 · intro i hi h; refine zgH _ _ _ ?_; simp (disch:=omega) [zaA,zak,h]; rfl
 · intro i hi y h hk; refine zgH _ _ _ ?_; simp (disch:=omega) [zaA,zak,w64_id,h,hk]
def accB (x:GPart) (ks:List Int) (v:Int):Bool:=if ks=[] then v == x.Key else dec (v∈ks)
theorem zuU (x:GPart) (ks:List Int) (v:Int) (hl:ks.length≤1000000):cw zmh [.agg (zaL x),.sl 1 (List.map zaj ks),I v] []=some (zag (accB x ks v)):=by
 refine zxK x ks v ?_; unfold accB; by_cases h:ks=[]
 · rw [if_pos h,h]; rfl
 · rw [if_neg h]; have:((ks.length:Int) == 0)=false:=by simpa using h
   simp only [zal,this,zaq,zyi _ _ hl,zam]; rfl
def zki (p:zaE) (s:zbl) (a:List Int) (j:Nat):Int:=
 match p.Parts[j]?,s.Keys[j]?,a[j]? with
 | some x,some ks,some v=>if x.Kind=1 then -2 else if accB x ks v=true then x.Max else if v=-1 then -1 else 0
 | _,_,_=>0
def zso (p:zaE) (s:zbl) (a:List Int):List Int:=(List.range p.Parts.length).map (zki p s a)
theorem kind2 {x:GPart} (h:OkPart x):x.Kind=1∨x.Kind=2:=by unfold OkPart at h; omega
theorem zym (p:zaE) (s:zbl) (a:List Int) (hs:Short s):∃ r:List Int×Int,cw zjP [.agg (zaG p),.agg (zbA s),.sl 1 (List.map zaj a)] []=some (ze9 r)∧(r.2=0↔zee p s∧OkAns p a)∧(r.2=0→r.1=zso p s a):=by
 by_cases hp:zee p s
 case neg=>refine ⟨([],1),zm0 p s a ?_,by simp [hp],by simp⟩; simp only [zh6 p s hs,zam,za3 hp]; rfl
 obtain ⟨hP,hk,hw,hall⟩:=id hp; have hpl:=hP.2.2.1; by_cases ha:a.length=p.Parts.length
 case neg=>refine ⟨([],22),zm0 p s a ?_,by simp [OkAns,ha],by simp⟩; simp only [zh6 p s hs,zam,zbi hp,zbv,zaq,zal,show ((a.length:Int) != p.Parts.length)=true by simpa using (by omega:¬ ((a.length:Int)=p.Parts.length)),zaF]; rfl
 have start:∀ y,zdE p s a 0=some y→cw zjP [.agg (zaG p),.agg (zbA s),.sl 1 (List.map zaj a)] []=some y:=by intro y hy; refine zm0 p s a ?_; simp only [zh6 p s hs,zam,zbi hp,zbv,zaq,zal,ha,bne_self_eq_false,hy]
 have second:zdF p s a (List.map zaj (List.replicate p.Parts.length 0)) 0=some (ze9 (zso p s a,0)):=by
  rw [← mkN_zero p.Parts.length (zki p s a) 0]; have:=zdi p.Parts (fun i r=>zdF p s a (List.map zaj (mkN p.Parts.length (zki p s a) 0 i.toNat)) i=some (ze9 (zso p s a,0))) ?_ ?_
  · exact this
  · refine zpt _ _ _ _ _ ?_; simp (disch:=omega) only [zal,zaI,za2,mkN_all,zmw,aLiAs15,zak,znG,zso.eq_1]; rw [show List.take p.Parts.length (List.map zaj (List.map (zki p s a) (List.range p.Parts.length)))=List.map zaj (List.map (zki p s a) (List.range p.Parts.length)) from zcr (by simp)]; rfl
  · intro i hi r hr ih; have hi1:i < s.Keys.length:=by omega
    have hi2:i < a.length:=by omega
    have hkl:=hs _ (zbc hi1); refine zpt _ _ _ _ _ ?_
    have hc:zki p s a i=if p.Parts[i].Kind=1 then -2 else if accB p.Parts[i] s.Keys[i] a[i]=true then p.Parts[i].Max else if a[i]=-1 then -1 else 0:=by simp [zki,hi,hi1,hi2]
    have e1:((i:Int)+1).toNat=i+1:=by omega
    rw [e1] at ih; have hgi:(mkN p.Parts.length (zki p s a) 0 i)[i]?=some 0:=mkN_get hi; rcases kind2 (hP.2.2.2.1 _ (zbc hi)) with h1 | h1
    · rw [if_pos h1] at hc; simp (disch:=omega) [zaA,zak,h1,w64_id,hgi,zkF,zvP hc.symm,-List.map_set,ih]
    · rw [iNQ] at hc
      cases hb:accB p.Parts[i] s.Keys[i] a[i] with
      | true=>rw [if_pos hb] at hc; simp (disch:=omega) [zaA,zak,h1,w64_id,hgi,zkF,zvP hc.symm,-List.map_set,ih,zuU _ _ _ hkl,hb]
      | false =>
        rw [if_neg (by rw [hb]; simp)] at hc; by_cases h2:a[i]=-1
        · rw [if_pos h2] at hc; simp (disch:=omega) [zaA,zak,h1,w64_id,hgi,zkF,zvP hc.symm,-List.map_set,ih,zuU _ _ _ hkl,hb,← h2]; simp (disch:=omega) [h2,zkF,zvP hc.symm,-List.map_set,ih]
        · rw [if_neg h2] at hc; simp (disch:=omega) [zaA,zak,h1,w64_id,mkN_same hc,ih,zuU _ _ _ hkl,hb,show (a[i] == -1)=false by simpa using h2]
 have hfst:∀ j (hj:j < p.Parts.length),(p.Parts[j].Kind≠1→-2≤a[j]'(by omega)∧a[j]'(by omega) < p.Parts[j].Options)↔(p.Parts[j].Kind=2→-2≤a[j]'(by omega)∧a[j]'(by omega) < p.Parts[j].Options):=by intro j hj; have:=kind2 (hP.2.2.2.1 _ (zbc hj)); omega
 have H:=zmz p.Parts.length (fun j hj=>p.Parts[j].Kind≠1→-2≤a[j]'(by omega)∧a[j]'(by omega) < p.Parts[j].Options) (fun i=>zdE p s a i) (fun y=>y=ze9 ([],2)) (ze9 (zso p s a,0)) ?_ ?_ ?_
 · rcases H with ⟨h1,h2⟩ | ⟨⟨j,hj,h1⟩,y,rfl,h3⟩
   · refine ⟨_,start _ h2,⟨fun _=>⟨hp,ha,fun j x v q1 q2 q3=>?_⟩,fun _=>rfl⟩,fun _=>rfl⟩; obtain ⟨hj,rfl⟩:=zbt.1 q1; obtain ⟨_,rfl⟩:=zbt.1 q2; exact h1 j hj q3
   · refine ⟨_,start _ h3,⟨fun h=>by simp at h,fun h=>?_⟩,fun h=>by simp at h⟩; exact absurd (fun q3=>h.2.2 j _ _ (zaz hj) (zaz (by omega)) q3) h1
 · intro _; refine zlC _ _ _ _ ?_; rw [← map_rep] at second; simp (disch:=omega) only [zal,zaI,zak,zbe,za2,second]
 · intro i hi _ hn; have hi2:i < a.length:=by omega
   refine ⟨_,rfl,zlC _ _ _ _ ?_⟩; rcases kind2 (hP.2.2.2.1 _ (zbc hi)) with h1 | h1
   · exact absurd (fun h=>absurd h1 h) hn
   · have h2:¬ (-2≤a[i]∧a[i] < p.Parts[i].Options):=fun h=>hn (fun _=>h)
     have hop:2≤p.Parts[i].Options:=by have:=(hP.2.2.2.1 _ (zbc hi)); unfold OkPart at this; omega
     have h3:a[i]≠-1:=fun h=>h2 (by omega)
     have h4:a[i]≠-2:=fun h=>h2 (by omega)
     by_cases h5:a[i] < 0
     · simp (disch:=omega) [zaA,zak,h1,show (a[i] != -1)=true by simpa using h3,show (a[i] != -2)=true by simpa using h4]; rfl
     · simp (disch:=omega) [zaA,zaI,zak,h1,show (a[i] != -1)=true by simpa using h3,show (a[i] != -2)=true by simpa using h4]; rfl
 · intro i hi y hg hk'; have hi2:i < a.length:=by omega
   refine zlC _ _ _ _ ?_; rcases kind2 (hP.2.2.2.1 _ (zbc hi)) with h1 | h1
   · simp (disch:=omega) [zaA,zak,h1,w64_id,hk']
   · have h2:=hg (by omega); by_cases h3:a[i]=-1
     · simp (disch:=omega) [zaA,zak,h1,w64_id,h3,hk']
     · by_cases h4:a[i]=-2
       · simp (disch:=omega) [zaA,zak,h1,w64_id,h4,hk']
       · simp (disch:=omega) [zaA,zaI,zak,h1,show (a[i] != -1)=true by simpa using h3,show (a[i] != -2)=true by simpa using h4,w64_id,hk']
def zCb:zaJ:=⟨0,0,0,0,0,[],[]⟩
def ixR:Option (Nat×zaE)→Int×Bool
 | some (i,_)=>((i:Int),true)
 | none=>(0,false)
def scR:Option zaJ→zaJ×Bool
 | some x=>(x,true)
 | none=>(zCb,false)
theorem zte (s:zay) (n:Int) (hl:s.Scripts.length≤1000000):cw zfW [.agg (zar s),I n] []=some (zgv (scR (zeH s.Scripts n))):=by
 refine zu8 s n ?_; have key:=zfG s.Scripts (fun x=>x.Number == n) (fun i=>zgh s n i) (fun o=>zgv (scR (o.map (·.2)))) ?_ ?_ ?_
 · exact key
 · exact zi4 _ _ _ (by simp (disch:=omega) [zaI] <;> rfl)
 · intro i hi h; refine zi4 _ _ _ ?_; simp (disch:=omega) [zaA,zak,h]; rfl
 · intro i hi y h hk; refine zi4 _ _ _ ?_; simp (disch:=omega) [zaA,zak,w64_id,h,hk]
theorem zzo (l:List zaJ) (n:Int) (hl:l.length≤1000000):cw zn4 [.sl 7 (List.map zaN l),I n] []=some (zgv (scR (zeH l n))):=by
 refine zzw l n ?_; have key:=zfG l (fun x=>x.Number == n) (fun i=>ziN l n i) (fun o=>zgv (scR (o.map (·.2)))) ?_ ?_ ?_
 · exact key
 · exact zmr _ _ _ (by simp (disch:=omega) [zaI] <;> rfl)
 · intro i hi h; refine zmr _ _ _ ?_; simp (disch:=omega) [zaA,zak,h]; rfl
 · intro i hi y h hk; refine zmr _ _ _ ?_; simp (disch:=omega) [zaA,zak,w64_id,h,hk]
theorem zuV (s:zay) (x:zaJ) (hl:s.Papers.length≤1000000):cw zgb [.agg (zar s),.agg (zaN x)] []=some (zf7 (ixR (zfl s.Papers x))):=by
 refine zwk s x ?_; have key:=zfG s.Papers (fun p=>p.Code == x.Paper && p.Variant == x.Variant) (fun i=>zfv s x i) (fun o=>zf7 (ixR o)) ?_ ?_ ?_
 · exact key
 · exact zjK _ _ _ (by simp (disch:=omega) [zaI] <;> rfl)
 · intro i hi h; refine zjK _ _ _ ?_; rw [zbQ] at h; simp (disch:=omega) [zaA,zak,h.1,h.2]; rfl
 · intro i hi y h hk; refine zjK _ _ _ ?_
   cases h1:(s.Papers[i].Code == x.Paper) with
   | false=>simp (disch:=omega) [zaA,zak,w64_id,h1,hk]
   | true=>rw [h1,zhD] at h; simp (disch:=omega) [zaA,zak,w64_id,h1,h,hk]
theorem zAy (ps:List zaE) (x:zaJ) (hl:ps.length≤1000000):cw zo8 [.sl 3 (List.map zaG ps),.agg (zaN x)] []=some (zf7 (ixR (zfl ps x))):=by
 refine zAG ps x ?_; have key:=zfG ps (fun p=>p.Code == x.Paper && p.Variant == x.Variant) (fun i=>zhl ps x i) (fun o=>zf7 (ixR o)) ?_ ?_ ?_
 · exact key
 · exact znu _ _ _ (by simp (disch:=omega) [zaI] <;> rfl)
 · intro i hi h; refine znu _ _ _ ?_; rw [zbQ] at h; simp (disch:=omega) [zaA,zak,h.1,h.2]; rfl
 · intro i hi y h hk; refine znu _ _ _ ?_
   cases h1:(ps[i].Code == x.Paper) with
   | false=>simp (disch:=omega) [zaA,zak,w64_id,h1,hk]
   | true=>rw [h1,zhD] at h; simp (disch:=omega) [zaA,zak,w64_id,h1,h,hk]
theorem c_PaperOf (s:zay) (n:Int) (h1:s.Scripts.length≤1000000) (h2:s.Papers.length≤1000000):cw zlw [.agg (zar s),I n] []=some (zf7 (ixR (zoc s n))):=by
 refine zwj s n ?_; rw [zte s n h1,zg4]; unfold zoc
 cases zeH s.Scripts n with
 | none=>rfl
 | some x=>simp only [scR,zbv,zaq,zuV s x h2,zls,zaV]; rfl
theorem zBx (p:zaE) (m:List Int) (hl:p.Parts.length≤1000000) (h:zrX p m):cw ziJ [.agg (zaG p),.sl 1 (List.map zaj m)] []=some (zag true):=by
 obtain ⟨h1,h2⟩:=h; refine zts p m ?_; simp only [zal,h1,bne_self_eq_false,zaq]; refine zdi p.Parts (fun i r=>zfP p m i=some (zag true)) ?_ ?_
 · exact zlW _ _ _ (by simp (disch:=omega) [zaI] <;> rfl)
 · intro i hi r hr ih; have hi2:i < m.length:=by omega
   have:=h2 i _ _ (zaz hi) (zaz hi2); refine zlW _ _ _ ?_; simp (disch:=omega) [zaA,zaI,zak,w64_id,ih]
theorem zfS {ps:List zaE} {x:zaJ} {k:Nat} {p:zaE} (hk:zfl ps x=some (k,p)):ps[k]?=some p∧p.Code=x.Paper∧p.Variant=x.Variant:=by obtain ⟨h1,h2,_⟩:=fnd_at hk; simp only [zbQ,beq_iff_eq] at h2; exact ⟨h1,h2⟩
theorem zCK {l:List zaJ} {n:Int} {x:zaJ} (h:zeH l n=some x):x∈l∧x.Number=n:=by
 unfold zeH at h
 cases hf:fnd (fun x=>x.Number == n) 0 l with
 | none=>simp [hf] at h
 | some q=>obtain ⟨i,y⟩:=q; rw [hf] at h; simp only [zcO,zaw] at h; subst h; obtain ⟨h1,h2,_⟩:=fnd_at hf; exact ⟨zbN h1,by simpa using h2⟩
theorem zBV {l:List zaJ} (h:AscBy zaJ.Number l) {x:zaJ} (hx:x∈l):zeH l x.Number=some x:=by
 obtain ⟨i,hi,rfl⟩:=zl6.1 hx; unfold zeH
 rw [fnd_of (j:=i) (x:=l[i]) (zaz hi) (by simp) (fun k y hk hy=>by
  obtain ⟨hk',rfl⟩:=zbt.1 hy; have:=asc_lt h k i hi hk; simp only [beq_eq_false_iff_ne]
  omega)]
 rfl
theorem paperOf_at {s:zay} {n:Int} {k:Nat} {p:zaE} (hk:zoc s n=some (k,p)):s.Papers[k]?=some p:=by
 unfold zoc at hk
 cases hx:zeH s.Scripts n with
 | none=>simp [hx] at hk
 | some x=>rw [hx] at hk; exact (zfS hk).1
section
variable {s:zay} (h:zcM s)
include h
theorem zcM.okPaper {k:Nat} {p:zaE} (hk:s.Papers[k]?=some p):zfe p:=by have hlt:=(zbt.1 hk).1; have:=h.len; exact (h.schemes k p _ hk (zaz (by omega))).1
theorem zAA:cw zh8 [.agg (zar s)] []=some (zag true):=by
 have hp:=h.papers; have hl:=h.len; refine zst s ?_; simp (disch:=omega) only [zal,zaI,hl,bne_self_eq_false,zaq]; refine zdi s.Papers (fun i r=>zft s i=some (zag true)) ?_ ?_
 · exact zlm _ _ (by simp (disch:=omega) [zaI] <;> rfl)
 · intro i hi r hr ih; have hi2:i < s.Schemes.length:=by omega
   have hv:=h.schemes i _ _ (zaz hi) (zaz hi2); refine zlm _ _ ?_; simp (disch:=omega) [zaA,zak,w64_id,zh6 _ _ (h.short _ (zbc hi2)),zbi hv,ih]
theorem zzq:cw zhG [.agg (zar s)] []=some (zag true):=by
 have hp:=h.papers; have hl:=h.len; have hsl:=h.scripts.1; refine zrG s ?_; refine zdi s.Scripts (fun i r=>ze4 s i=some (zag true)) ?_ ?_
 · exact zkO _ _ (by simp (disch:=omega) [zaI] <;> rfl)
 · intro i hi r hr ih; obtain ⟨k,p,c,q1,q2,q3⟩:=h.script _ (zbc hi); have hpk:=(zfS q1).1; obtain ⟨w,hw,hw1,hw2⟩:=zym p c s.Scripts[i].Answers (h.short _ (zbN q2)); have hw0:w.2=0:=hw1.2 ⟨h.schemes k p c hpk q2,q3⟩; refine zkO _ _ ?_; simp (disch:=omega) [zaA,zak,w64_id,zuV s _ (by omega),q1,ixR,hpk,q2,hw,hw0,ih]
theorem zBy:cw ziK [.agg (zar s)] []=some (zag true):=by
 have hp:=h.papers; have hl:=h.seeds; have hsl:=h.scripts.1; refine ztt s ?_; simp (disch:=omega) only [zal,zaI]; refine zdi s.Seeds (fun i r=>zfQ s i=some (zag true)) ?_ ?_
 · exact zlX _ _ (by simp (disch:=omega) [zaI] <;> rfl)
 · intro i hi r hr ih; obtain ⟨k,p,q1,q2⟩:=h.seed _ (zbc hi); have hpk:=paperOf_at q1; have hpl:=(h.okPaper hpk).2.2.1
   have rest:zeV s i s.Seeds[i]=some (zag true):=by refine zpN _ _ _ ?_; simp (disch:=omega) [zak,w64_id,c_PaperOf s _ (by omega) (by omega),q1,ixR,hpk,zBx _ _ (by omega) q2,ih]
   refine zlX _ _ ?_; by_cases h0:0 < i
   · have:=zsh.2 h.asc i hi h0; simp (disch:=omega) [zaA,zaI,zak,w64_id,zea h0,rest]
   · simp (disch:=omega) [zaA,zaI,zak,rest]
theorem zq8:cw zg8 [.agg (zar s)] []=some (zbk 0):=by obtain ⟨e1,h1,h2⟩:=zzn s.Markers h.short2; obtain ⟨e2,h3,h4⟩:=zsm s.Scripts; have g1:=h2.2 h.markers; have g2:=h4.2 h.scripts; subst g1 g2; refine zyz s ?_; simp only [h1,h3,za5,za5,zAA h,zzq h,zBy h,zmY _ h.monitor,zam,zam,zam,za5,bne_self_eq_false,zbv,zaq]; rfl
end
def DOk (d:zae):Prop:=0≤d.At∧d.L.length≤600
abbrev mD (d:zae):Mem:=[(1000,⟨2,zaf,[zas d],true⟩)]
theorem tmod_lt {a n:Int} (hn:0 < n):-n < a.tmod n∧a.tmod n < n:=by have h1:=Int.tmod_lt_of_pos a hn; refine ⟨?_,h1⟩; have h2:=Int.tmod_lt_of_pos (-a) hn; rw [Int.neg_tmod] at h2; omega
theorem c_Light (t:List Int):cw zqz [.sl 1 (List.map zaj t)] []=some (zag (decide ((t.length:Int)≤600))):=
 zBD t (by rw [zal]; rfl)
theorem c_Roll (t:List Int):cw zrK [.sl 1 (List.map zaj t)] []=some (zrR ⟨t,0⟩):=zCm t rfl
theorem zcg (d:zae) (n:Int) (hd:DOk d) (hn:n≤4611686018427387904):∃ (r:Int) (d':zae),cw zaZ [.loc 1000 2 0 0,I n] (mD d)=some (ziQ (r,d'))∧0≤r∧(r < n∨r=0)∧DOk d':=by
 by_cases h1:(d.L.length:Int)≤d.At
 · refine ⟨0,d,ziD d n ?_,by omega,.inr rfl,hd⟩; simp (disch:=omega) only [zal,zaA]; rfl
 by_cases h2:n < 1
 · refine ⟨0,d,ziD d n ?_,by omega,.inr rfl,hd⟩; simp (disch:=omega) only [zal,zaA,zaI]; rfl
 obtain ⟨ha,hl⟩:=hd; have hlt:d.At.toNat < d.L.length:=by omega
 have hb:=tmod_lt (a:=d.L[d.At.toNat]) (n:=n) (by omega); have hd':DOk ⟨d.L,d.At+1⟩:=⟨by show 0≤d.At+1; omega,hl⟩
 by_cases h3:(d.L[d.At.toNat]).tmod n < 0
 · refine ⟨(d.L[d.At.toNat]).tmod n+n,⟨d.L,d.At+1⟩,ziD d n ?_,by omega,.inl (by omega),hd'⟩; simp (disch:=omega) [zaA,zaI,zak,hlt,w64_id]; rfl
 · refine ⟨(d.L[d.At.toNat]).tmod n,⟨d.L,d.At+1⟩,ziD d n ?_,by omega,.inl (by omega),hd'⟩; simp (disch:=omega) [zaA,zaI,zak,hlt,w64_id]; rfl
theorem zsj (d:zae) (n:Int) (hd:DOk d) (hn:n≤4611686018427387904):∃ (r:Bool) (d':zae),cw zdU [.loc 1000 2 0 0,I n] (mD d)=some (zmm (r,d'))∧DOk d':=by obtain ⟨r,d',h,_,_,hd'⟩:=zcg d n hd hn; exact ⟨_,d',zxA d n (by simp only [h,zaY]; rfl),hd'⟩
theorem c_Pick (d:zae) (l:List Int) (hd:DOk d) (hl:l≠[]) (hl2:l.length≤1000):∃ (r:Int) (d':zae),cw zfF [.loc 1000 2 0 0,.sl 1 (List.map zaj l)] (mD d)=some (ziQ (r,d'))∧r∈l∧DOk d':=by
 obtain ⟨r,d',h,h0,h1,hd'⟩:=zcg d l.length hd (by omega); have hpos:0 < l.length:=List.length_pos_iff.2 hl; have hlt:r.toNat < l.length:=by omega
 refine ⟨l[r.toNat],d',zxC d l ?_,zbc hlt,hd'⟩; simp (disch:=omega) only [zal,h,zaY,zak,zco,zaz hlt,zaV]; rfl
def DPaper (p:zaE):Prop:=p.Parts.length≤3∧1≤p.Parts.length∧(∀ x∈p.Parts,OkPart x∧x.Max≤6)∧∃ y,p.Parts[0]?=some y∧y.Kind=1∧3≤y.Max
theorem DPaper.ok {p:zaE} (h:DPaper p) (h1:0≤p.Code∧p.Code≤31) (h2:0≤p.Variant∧p.Variant < 4):zfe p:=by obtain ⟨a,b,c,_⟩:=h; refine ⟨h1,h2,by omega,fun x hx=>(c x hx).1,?_⟩; have:=(zvC (fun x hx=>(c x hx).1)).2; omega
theorem zvM (d:zae) (a b:Int) (hd:DOk d):∃ (p:zaE) (d':zae),cw zdB [.loc 1000 2 0 0,I a,I b] (mD d)=some (zlz (p,d'))∧p.Code=a∧p.Variant=b∧DPaper p∧DOk d':=by
 obtain ⟨n0,d0,e0,a0,b0,hd0⟩:=zcg d 4 hd (by omega); obtain ⟨n1,d1,e1,a1,b1,hd1⟩:=zcg d0 3 hd0 (by omega); by_cases h1:0 < n1
 · obtain ⟨n2,d2,e2,a2,b2,hd2⟩:=zcg d1 2 hd1 (by omega); obtain ⟨n3,d3,e3,a3,b3,hd3⟩:=zcg d2 4 hd2 (by omega); obtain ⟨n4,d4,e4,a4,b4,hd4⟩:=zcg d3 2 hd3 (by omega)
   have start:∀ y,zhI a b (n0,d0) (n2,d2) (n3,d3)=some y→cw zdB [.loc 1000 2 0 0,I a,I b] (mD d)=some y:=by intro y hy; refine zpp d a b ?_; simp (disch:=omega) only [e0,e1,e2,e3,zaY,zaA,zak,zbe,hy]
   by_cases h4:0 < n4
   · obtain ⟨n5,d5,e5,a5,b5,hd5⟩:=zcg d4 4 hd4 (by omega); refine ⟨⟨a,b,[⟨1,3+n0,0,0,0,0⟩,⟨2,1+n2,0,0,4,n3⟩,⟨1,2+n5,0,0,0,0⟩]⟩,d5,start _ (zlV _ _ _ _ _ ?_),rfl,rfl,⟨by simp,by simp,?_,_,rfl,rfl,by dsimp only; omega⟩,hd5⟩
     · simp (disch:=omega) only [e4,e5,zaY,zaA,zak,zbe,w64_id]; rfl
     · intro x hx; simp only [za6,zc7,or_false] at hx; rcases hx with rfl | rfl | rfl <;> exact ⟨by unfold OkPart; dsimp only; omega,by dsimp only; omega⟩
   · refine ⟨⟨a,b,[⟨1,3+n0,0,0,0,0⟩,⟨2,1+n2,0,0,4,n3⟩]⟩,d4,start _ (zlV _ _ _ _ _ ?_),rfl,rfl,⟨by simp,by simp,?_,_,rfl,rfl,by dsimp only; omega⟩,hd4⟩
     · simp (disch:=omega) only [e4,zaY,zaI,zak,zbe,w64_id]; rfl
     · intro x hx; simp only [za6,zc7,or_false] at hx; rcases hx with rfl | rfl <;> exact ⟨by unfold OkPart; dsimp only; omega,by dsimp only; omega⟩
 · obtain ⟨n4,d4,e4,a4,b4,hd4⟩:=zcg d1 2 hd1 (by omega)
   have start:∀ y,zgz a b (n0,d0) (n1,d1)=some y→cw zdB [.loc 1000 2 0 0,I a,I b] (mD d)=some y:=by intro y hy; refine zpp d a b ?_; simp (disch:=omega) only [e0,e1,zaY,zaI,hy]
   by_cases h4:0 < n4
   · obtain ⟨n5,d5,e5,a5,b5,hd5⟩:=zcg d4 4 hd4 (by omega); refine ⟨⟨a,b,[⟨1,3+n0,0,0,0,0⟩,⟨1,2+n5,0,0,0,0⟩]⟩,d5,start _ (zkL _ _ _ _ ?_),rfl,rfl,⟨by simp,by simp,?_,_,rfl,rfl,by dsimp only; omega⟩,hd5⟩
     · simp (disch:=omega) only [e4,e5,zaY,zaA,zak,zbe,w64_id]; rfl
     · intro x hx; simp only [za6,zc7,or_false] at hx; rcases hx with rfl | rfl <;> exact ⟨by unfold OkPart; dsimp only; omega,by dsimp only; omega⟩
   · refine ⟨⟨a,b,[⟨1,3+n0,0,0,0,0⟩]⟩,d4,start _ (zkL _ _ _ _ ?_),rfl,rfl,⟨by simp,by simp,?_,_,rfl,rfl,by dsimp only; omega⟩,hd4⟩
     · simp (disch:=omega) only [e4,zaY,zaI,zak,zbe,w64_id]; rfl
     · intro x hx; simp only [za6,zc7,or_false] at hx; subst hx; exact ⟨by unfold OkPart; dsimp only; omega,by dsimp only; omega⟩
theorem c_Scheme (d:zae) (p:zaE) (hd:DOk d) (hp:DPaper p) (hok:zfe p):∃ (c:zbl) (d':zae),cw zkl [.loc 1000 2 0 0,.agg (zaG p)] (mD d)=some (zkI (c,d'))∧zee p c∧Short c∧DOk d':=by
 have hl:=hp.1; have hl2:=hp.2.1; obtain ⟨b,d0,e0,hd0⟩:=zsj d 6 hd (by omega)
 have good:∀ W:List Int,W.length=p.Parts.length→(∀ k∈W,0≤k∧k≤2)→zee p ⟨List.replicate p.Parts.length [],W⟩∧Short ⟨List.replicate p.Parts.length [],W⟩:=by
  intro W hW hk; refine ⟨⟨hok,by simp,hW,fun j x ks k q1 q2 q3=>⟨?_,hk k (zbN q3)⟩⟩,?_⟩
  · have:=zbN q2; rw [zsY] at this; rw [this.2]; exact ⟨by simp,fun j hj=>by simp at hj⟩
  · intro ks hks; rw [zsY] at hks; rw [hks.2]; simp
 cases b with
 | true =>
   obtain ⟨n1,d1,e1,a1,b1,hd1⟩:=zcg d0 p.Parts.length hd0 (by omega); obtain ⟨n2,d2,e2,a2,b2,hd2⟩:=zcg d1 2 hd1 (by omega); have hlt:n1.toNat < p.Parts.length:=by omega
   obtain ⟨g1,g2⟩:=good ((List.replicate p.Parts.length 0).set n1.toNat (1+n2)) (by simp) (by
    intro k hk; rcases aLiAs54 hk with h | h
    · rw [zsY] at h; omega
    · omega)
   refine ⟨_,d2,zoL d p ?_,g1,g2,hd2⟩; have hlt':n1.toNat < (List.replicate p.Parts.length (0:Int)).length:=by simpa using hlt
   simp (disch:=omega) only [zal,zak,zbe,e0,e1,e2,zb1,zaY,zaF,za2,zmw,zbL,map_rep zaj,zco,zaz hlt',zaV]; refine zq2 _ _ _ _ _ ?_; simp (disch:=omega) only [zal,zak,zbe,za2,zmw,zbL,zqd,zbR,w64_id]; rw [show List.take p.Parts.length (List.replicate p.Parts.length [AV.sl 1 []])=List.replicate p.Parts.length [AV.sl 1 []] from zcr (by simp),zcr (Nat.le_of_eq (by simp only [zqd,zmw]))]; rw [show List.replicate p.Parts.length [AV.sl 1 []]=List.map zcm (List.replicate p.Parts.length []) by simp [zcm],show List.replicate p.Parts.length [I 0]=List.map zaj (List.replicate p.Parts.length 0) by simp [zaj],show [I (1+n2)]=zaj (1+n2) from rfl,zkF]; rfl
 | false =>
   obtain ⟨g1,g2⟩:=good (List.replicate p.Parts.length 0) (by simp) (by
    intro k hk
    rw [zsY] at hk; omega)
   refine ⟨_,d0,zoL d p ?_,g1,g2,hd0⟩; simp (disch:=omega) only [zal,zak,zbe,e0,zb1,zaq,za2]; refine zpJ _ _ ?_; simp (disch:=omega) only [zal,zak,zbe,za2,zmw,zbL,zbR]; rw [show List.take p.Parts.length (List.replicate p.Parts.length [AV.sl 1 []])=List.replicate p.Parts.length [AV.sl 1 []] from zcr (by simp),zcr (Nat.le_of_eq (by simp only [zqd,zmw]))]; rw [show List.replicate p.Parts.length [AV.sl 1 []]=List.map zcm (List.replicate p.Parts.length []) by simp [zcm],show List.replicate p.Parts.length [I 0]=List.map zaj (List.replicate p.Parts.length 0) by simp [zaj]]; rfl
def zkQ (ps:List zaE):Prop:=1≤ps.length∧ps.length≤3∧(∀ p∈ps,DPaper p∧(0≤p.Code∧p.Code≤1)∧(0≤p.Variant∧p.Variant≤1))∧∀ p∈ps,∀ q∈ps,p.Code=q.Code→p.Variant=q.Variant→p=q
def zq6 (ps:List zaE) (cs:List zbl):Prop:=∀ (j:Nat) (p:zaE) (c:zbl),ps[j]?=some p→cs[j]?=some c→zee p c∧Short c
theorem c_Papers (d:zae) (hd:DOk d):∃ (ps:List zaE) (cs:List zbl) (d':zae),cw zfV [.loc 1000 2 0 0] (mD d)=some (zfY ((ps,cs),d'))∧zkQ ps∧cs.length=ps.length∧zq6 ps cs∧DOk d':=by
 have loop:∀ (ps:List zaE),zkQ ps→∀ (d:zae),DOk d→∃ (cs:List zbl) (d':zae),zcS (List.map zaG ps) (List.map zbA []) d 0=some (zfY ((ps,cs),d'))∧cs.length=ps.length∧zq6 ps cs∧DOk d':=by
  intro ps hps d hd; have hpl:=hps.2.1; refine zdi ps (fun i r=>∀ (cs:List zbl) (d:zae),(cs.length:Int)=i→zq6 ps cs→DOk d→∃ (cs':List zbl) (d':zae),zcS (List.map zaG ps) (List.map zbA cs) d i=some (zfY ((ps,cs'),d'))∧cs'.length=ps.length∧zq6 ps cs'∧DOk d') ?_ ?_ [] d (by simp) (by intro j p c _ h; simp at h) hd
  · intro cs d hcs hok hd; refine ⟨cs,d,znm _ _ _ _ ?_,by omega,hok,hd⟩; simp (disch:=omega) only [zal,zaI,zbL,zbR,zbe]; rw [zcr (by simp),zcr (by simp)]; rfl
  · intro i hi r hr ih cs d hcs hok hd; obtain ⟨g1,g2,g3⟩:=hps.2.2.1 _ (zbc hi); obtain ⟨c,d1,e1,o1,o2,hd1⟩:=c_Scheme d ps[i] hd g1 (g1.ok (by omega) (by omega))
    obtain ⟨cs',d',e2,o3,o4,hd'⟩:=ih (cs++[c]) d1 (by simp; omega) (by
     intro j p c' hp hc; by_cases hj:j < cs.length
     · rw [znH hj] at hc; exact hok j p c' hp hc
     · have hjl:=(zbt.1 hc).1; simp at hjl; have hji:j=cs.length:=by omega
       subst hji; simp at hc; subst hc; have:i=cs.length:=by omega
       subst this; rw [zaz hi] at hp; injection hp with hp; subst hp
       exact ⟨o1,o2⟩) hd1
    refine ⟨cs',d',znm _ _ _ _ ?_,o3,o4,hd'⟩; simp (disch:=omega) only [zal,zaA,zak,zbe,zbL,za2,ze0,zaz hi,zaV,e1,zrw,w64_id,zcl,e2]
 obtain ⟨p0,d0,e0,a0,b0,g0,hd0⟩:=zvM d 0 0 hd; obtain ⟨b,d1,e1,hd1⟩:=zsj d0 2 hd0 (by omega)
 cases b with
 | true =>
   obtain ⟨p2,d2,e2,a2,b2,g2,hd2⟩:=zvM d1 0 1 hd1; obtain ⟨b',d3,e3,hd3⟩:=zsj d2 2 hd2 (by omega)
   have start:∀ y,zgU (p0,d0) (p2,d2)=some y→cw zfV [.loc 1000 2 0 0] (mD d)=some y:=by intro y hy; refine zoK d ?_; simp (disch:=omega) only [e0,e1,e2,zf3,zb1,zaF,zak,zbe,hy]
   cases b' with
   | true =>
     obtain ⟨p4,d4,e4,a4,b4,g4,hd4⟩:=zvM d3 1 0 hd3
     obtain ⟨cs,d',e5,o3,o4,hd'⟩:=loop [p0,p2,p4] (by
      refine ⟨by simp,by simp,?_,?_⟩ <;> simp only [za6,zc7,or_false]
      · rintro p (rfl | rfl | rfl)
        · exact ⟨g0,by omega,by omega⟩
        · exact ⟨g2,by omega,by omega⟩
        · exact ⟨g4,by omega,by omega⟩
      · rintro p (rfl | rfl | rfl) q (rfl | rfl | rfl) h1 h2 <;> first | rfl | omega) d4 hd4
     refine ⟨[p0,p2,p4],cs,d',start _ (zll _ _ ?_),?_,o3,o4,hd'⟩
     · simp (disch:=omega) only [e3,e4,zf3,zb1,zaF,zak,zbe]; exact e5
     · refine ⟨by simp,by simp,?_,?_⟩ <;> simp only [za6,zc7,or_false]
       · rintro p (rfl | rfl | rfl)
         · exact ⟨g0,by omega,by omega⟩
         · exact ⟨g2,by omega,by omega⟩
         · exact ⟨g4,by omega,by omega⟩
       · rintro p (rfl | rfl | rfl) q (rfl | rfl | rfl) h1 h2 <;> first | rfl | omega
   | false =>
     have hP:zkQ [p0,p2]:=by
      refine ⟨by simp,by simp,?_,?_⟩ <;> simp only [za6,zc7,or_false]
      · rintro p (rfl | rfl)
        · exact ⟨g0,by omega,by omega⟩
        · exact ⟨g2,by omega,by omega⟩
      · rintro p (rfl | rfl) q (rfl | rfl) h1 h2 <;> first | rfl | omega
     obtain ⟨cs,d',e5,o3,o4,hd'⟩:=loop [p0,p2] hP d3 hd3; refine ⟨[p0,p2],cs,d',start _ (zll _ _ ?_),hP,o3,o4,hd'⟩; simp (disch:=omega) only [e3,zb1,zaq]; exact e5
 | false =>
   obtain ⟨b',d3,e3,hd3⟩:=zsj d1 2 hd1 (by omega)
   have start:∀ y,zgg (p0,d0) (false,d1)=some y→cw zfV [.loc 1000 2 0 0] (mD d)=some y:=by intro y hy; refine zoK d ?_; simp (disch:=omega) only [e0,e1,zf3,zb1,zaq,zak,zbe,hy]
   cases b' with
   | true =>
     obtain ⟨p4,d4,e4,a4,b4,g4,hd4⟩:=zvM d3 1 0 hd3
     have hP:zkQ [p0,p4]:=by
      refine ⟨by simp,by simp,?_,?_⟩ <;> simp only [za6,zc7,or_false]
      · rintro p (rfl | rfl)
        · exact ⟨g0,by omega,by omega⟩
        · exact ⟨g4,by omega,by omega⟩
      · rintro p (rfl | rfl) q (rfl | rfl) h1 h2 <;> first | rfl | omega
     obtain ⟨cs,d',e5,o3,o4,hd'⟩:=loop [p0,p4] hP d4 hd4; refine ⟨[p0,p4],cs,d',start _ (zjZ _ _ ?_),hP,o3,o4,hd'⟩; simp (disch:=omega) only [e3,e4,zf3,zb1,zaF,zak,zbe]; exact e5
   | false =>
     have hP:zkQ [p0]:=by
      refine ⟨by simp,by simp,?_,?_⟩ <;> simp only [za6,zc7,or_false]
      · rintro p rfl
        exact ⟨g0,by omega,by omega⟩
      · rintro p rfl q rfl h1 h2; rfl
     obtain ⟨cs,d',e5,o3,o4,hd'⟩:=loop [p0] hP d3 hd3; refine ⟨[p0],cs,d',start _ (zjZ _ _ ?_),hP,o3,o4,hd'⟩; simp (disch:=omega) only [e3,zb1,zaq]; exact e5
def DMarkers (l:List zaW):Prop:=2≤l.length∧l.length≤5∧zox l∧(∀ m∈l,m.Papers.length≤2)∧∀ m∈l,m.ID≤15
theorem c_Markers (d:zae) (hd:DOk d):∃ (l:List zaW) (d':zae),cw zjD [.loc 1000 2 0 0] (mD d)=some (zgN (l,d'))∧DMarkers l∧DOk d':=by
 have asc1:∀ {l:List zaW} {m:zaW},AscBy zaW.ID l→(∀ x∈l,x.ID < m.ID)→AscBy zaW.ID (l++[m]):=by
  intro l m h1 h2 j hj; simp at hj; by_cases h:j+1 < l.length
  · rw [znI (by omega),znI h]; exact h1 j h
  · have hj':j+1=l.length:=by omega
    rw [znI (by omega),List.getElem_append_right (by omega)]; simpa using h2 _ (zbc (by omega))
 have loop:∀ (k:Nat) (l:List zaW) (d:zae) (id:Int),DOk d→0≤id→id≤3*l.length→l.length+k≤5→(∀ m∈l,zit m∧AscBy _root_.id m.Papers)→AscBy zaW.ID l→(∀ m∈l,m.ID≤id)→(∀ m∈l,m.Papers.length≤2)→∃ (l':List zaW) (d':zae),zf5 (List.map zaX l) d id k=some (zgN (l',d'))∧(l'.length=l.length+k∧(∀ m∈l',zit m∧AscBy _root_.id m.Papers)∧AscBy zaW.ID l'∧(∀ m∈l',m.Papers.length≤2)∧∀ m∈l',m.ID≤15)∧DOk d':=by
  intro k
  induction k with
  | zero=>intro l d id hd h0 h1 h2 h3 h4 h5 h6; refine ⟨l,d,zmP _ _ _ _ ?_,⟨rfl,h3,h4,h6,fun m hm=>by have:=h5 m hm; omega⟩,hd⟩; simp (disch:=omega) only [zaI,zbe]; rfl
  | succ k ih =>
    intro l d id hd h0 h1 h2 h3 h4 h5 h6; obtain ⟨n0,d0,e0,a0,b0,hd0⟩:=zcg d 3 hd (by omega); obtain ⟨n1,d1,e1,a1,hd1⟩:=c_Pick d0 [-1,-1,1,2,3] hd0 (by simp) (by simp); obtain ⟨n2,d2,e2,a2,hd2⟩:=c_Pick d1 [1,1,1,2,3] hd1 (by simp) (by simp); obtain ⟨n3,d3,e3,a3,hd3⟩:=c_Pick d2 [3,2,6,0,1] hd2 (by simp) (by simp); obtain ⟨n4,d4,e4,a4,b4,hd4⟩:=zcg d3 4 hd3 (by omega); have hlt:n4.toNat < ([[0,1],[0],[1],[0,1]]:List (List Int)).length:=by simp; omega
    have hpapers:∀ q∈([[0,1],[0],[1],[0,1]]:List (List Int)),(∀ n∈q,0≤n∧n≤31)∧AscBy _root_.id q∧q.length≤2:=by
     intro q hq; simp only [za6,zc7,or_false] at hq
     have A:AscBy _root_.id ([0,1]:List Int):=fun j hj=>by
      simp at hj; have:j=0:=by omega
      subst this; show (0:Int) < 1; omega
     rcases hq with rfl | rfl | rfl | rfl
     · exact ⟨by simp,A,by simp⟩
     · exact ⟨by simp,fun j hj=>by simp at hj,by simp⟩
     · exact ⟨by simp,fun j hj=>by simp at hj,by simp⟩
     · exact ⟨by simp,A,by simp⟩
    obtain ⟨q1,q2,q3⟩:=hpapers _ (zbc hlt); simp only [za6,zc7,or_false] at a1 a2 a3
    obtain ⟨l',d',e5,o1,hd'⟩:=ih (l++[⟨id+(1+n0),n1,n2,n3,([[0,1],[0],[1],[0,1]]:List (List Int))[n4.toNat]⟩]) d4 (id+(1+n0)) hd4 (by omega) (by simp; omega) (by simp; omega)
     (by
      intro m hm; rcases zb3.1 hm with h | h
      · exact h3 m h
      · simp only [zc9] at h; subst h
        refine ⟨⟨?_,?_,?_,?_,q1⟩,q2⟩ <;> dsimp only <;> omega)
     (asc1 h4 (fun x hx=>by have:=h5 x hx; dsimp only; omega))
     (by
      intro m hm; rcases zb3.1 hm with h | h
      · have:=h5 m h; omega
      · simp only [zc9] at h; subst h
        dsimp only; omega)
     (by
      intro m hm; rcases zb3.1 hm with h | h
      · exact h6 m h
      · simp only [zc9] at h; subst h
        exact q3)
    refine ⟨l',d',zmP _ _ _ _ ?_,⟨by have:=o1.1; simp at this; omega,o1.2⟩,hd'⟩; have e6:w64 (((k+1:Nat):Int) - 1)=(k:Int):=by rw [w6Q]; omega
    simp (disch:=omega) only [zaA,e0,e1,e2,e3,e4,zaY,zaY,zak,zbe,zal,w64_id,e6]; rw [show ([zcm [0,1],zcm [0],zcm [1],zcm [0,1]]:List (List AV))=List.map zcm [[0,1],[0],[1],[0,1]] from rfl,zAJ,zaz hlt,zaV]; simp (disch:=omega) only [zak,zbe,zal,w64_id,zcl,e5]
 obtain ⟨n,d0,e0,a0,b0,hd0⟩:=zcg d 4 hd (by omega); obtain ⟨l',d',e1,⟨o1,o2,o3,o4,o5⟩,hd'⟩:=loop (2+n).toNat [] d0 0 hd0 (by omega) (by simp) (by simp; omega) (by simp) (fun j hj=>by simp at hj) (by simp) (by simp); simp at o1; refine ⟨l',d',zur d ?_,⟨by omega,by omega,⟨by omega,o2,o3⟩,o4,o5⟩,hd'⟩; simp only [e0,zaY]; rw [w6Q]; rw [aLiAs44 (by omega)] at e1; exact e1
theorem asc_snoc {α:Type} {f:α→Int} {l:List α} {m:α} (h1:AscBy f l) (h2:∀ x∈l,f x < f m):AscBy f (l++[m]):=by
 intro j hj; simp at hj; by_cases h:j+1 < l.length
 · rw [znI (by omega),znI h]; exact h1 j h
 · have hj':j+1=l.length:=by omega
   rw [znI (by omega),List.getElem_append_right (by omega)]; simpa using h2 _ (zbc (by omega))
def zl5 (n:Int) (p:zaE) (x:zaJ):Prop:=
 x.Paper=p.Code∧x.Variant=p.Variant∧x.Number=p.Code*10000+x.Candidate∧(1≤x.Candidate∧x.Candidate≤n)∧(1≤x.Centre∧x.Centre≤3)∧x.Pages.length=2∧(∀ y∈x.Pages,0≤y∧y≤1000000)∧OkAns p x.Answers
theorem c_Script (d:zae) (p:zaE) (c n:Int) (hd:DOk d) (hp:DPaper p) (h1:0≤p.Code∧p.Code≤31) (hc:1≤c∧c≤n) (hn:n≤9):∃ (x:zaJ) (d':zae),cw zkm [.loc 1000 2 0 0,.agg (zaG p),I c] (mD d)=some (zho (x,d'))∧zl5 n p x∧x.Candidate=c∧DOk d':=by
 have hl:=hp.1; obtain ⟨n0,d0,e0,a0,b0,hd0⟩:=zcg d 3 hd (by omega); obtain ⟨n1,d1,e1,a1,b1,hd1⟩:=zcg d0 3 hd0 (by omega); have loop:=zdi p.Parts (fun i r=>∀ (a:List Int) (d2:zae),(a.length:Int)=i→DOk d2→(∀ (j:Nat) (x:GPart) (v:Int),p.Parts[j]?=some x→a[j]?=some v→x.Kind≠1→-2≤v∧v < x.Options)→∃ (x:zaJ) (d':zae),ze3 d p c (n0,d0) (n1,d1) (List.map zaj a) d2 i=some (zho (x,d'))∧zl5 n p x∧x.Candidate=c∧DOk d') ?_ ?_ [] d1 (by simp) hd1 (by intro j x v _ h; simp at h)
 · obtain ⟨x,d',e2,h⟩:=loop; refine ⟨x,d',zu5 d p c ?_,h⟩; simp only [e0,e1,zaY]; exact e2
 · intro a d2 ha hd2 hok; refine ⟨⟨p.Code*10000+c,p.Code,c,1+n0,p.Variant,[100*c+p.Code,n1],a⟩,d2,zi3 _ _ _ _ _ _ _ _ ?_,?_,rfl,hd2⟩
   · simp (disch:=omega) only [zal,zaI,zbL,zbR,zbe,w64_id]; rw [zcr (by simp),zcr (by simp)]; rfl
   · refine ⟨rfl,rfl,rfl,hc,by dsimp only; omega,rfl,?_,by dsimp only; omega,hok⟩; intro y hy; simp only [za6,zc7,or_false] at hy; omega
 · intro i hi r hr ih a d2 ha hd2 hok; obtain ⟨hx,_⟩:=hp.2.2.1 _ (zbc hi)
   have snoc:∀ v:Int,(p.Parts[i].Kind≠1→-2≤v∧v < p.Parts[i].Options)→∀ (j:Nat) (x:GPart) (w:Int),p.Parts[j]?=some x→(a++[v])[j]?=some w→x.Kind≠1→-2≤w∧w < x.Options:=by
    intro v hv j x w hj hw; by_cases hja:j < a.length
    · rw [znH hja] at hw; exact hok j x w hj hw
    · have:=(zbt.1 hw).1; simp at this; have hji:j=a.length:=by omega
      subst hji; simp at hw; subst hw; have:i=a.length:=by omega
      subst this; rw [zaz hi] at hj; injection hj with hj; subst hj; exact hv
   rcases kind2 hx with hk | hk
   · obtain ⟨x,d',e2,h⟩:=ih (a++[-1]) d2 (by simp; omega) hd2 (snoc _ (fun h=>absurd hk h)); refine ⟨x,d',zi3 _ _ _ _ _ _ _ _ ?_,h⟩; simp (disch:=omega) only [zal,zaA,zak,zbe,za2,zdx,zaz hi,zaV,show (p.Parts[i].Kind == 2)=false by rw [hk]; rfl,zaq,w64_id,zcl zaj,e2]
   · obtain ⟨v,d3,e3,hv,hd3⟩:=c_Pick d2 [p.Parts[i].Key,0,1,-1,-2] hd2 (by simp) (by simp)
     have hv':-2≤v∧v < p.Parts[i].Options:=by unfold OkPart at hx; simp only [za6,zc7,or_false] at hv; omega
     obtain ⟨x,d',e2,h⟩:=ih (a++[v]) d3 (by simp; omega) hd3 (snoc _ (fun _=>hv')); refine ⟨x,d',zi3 _ _ _ _ _ _ _ _ ?_,h⟩; simp (disch:=omega) only [zal,zaA,zak,zbe,za2,zdx,zaz hi,zaV,show (p.Parts[i].Kind == 2)=true by rw [hk]; rfl,zaF,e3,zaY,w64_id,zcl zaj,e2]
def zsQ (n:Int) (ps:List zaE) (l:List zaJ):Prop:=(∀ x∈l,∃ p∈ps,zl5 n p x)∧AscBy zaJ.Number l∧(l.length:Int)≤2*n
theorem c_Scripts (d:zae) (ps:List zaE) (n:Int) (hd:DOk d) (hps:zkQ ps) (hn:0≤n∧n≤9):∃ (l:List zaJ) (d':zae),cw zjF [.loc 1000 2 0 0,.sl 3 (List.map zaG ps),I n] (mD d)=some (zgO (l,d'))∧zsQ n ps l∧DOk d':=by
 have hpl:=hps.2.1
 let Inv:Int→List zaJ→Prop:=fun code l=>(∀ x∈l,(∃ p∈ps,zl5 n p x)∧x.Number < code*10000)∧AscBy zaJ.Number l∧(l.length:Int)≤code*n
 let Res:Option (AV×Mem)→Prop:=fun o=>∃ (l:List zaJ) (d':zae),o=some (zgO (l,d'))∧zsQ n ps l∧DOk d'
 have stage2:∀ (out:List zaJ) (d:zae),Inv 2 out→DOk d→Res (zdc ps n (List.map zaN out) d 2):=by intro out d hi hd; refine ⟨out,d,zmQ _ _ _ _ _ ?_,⟨fun x hx=>(hi.1 x hx).1,hi.2.1,hi.2.2⟩,hd⟩; simp (disch:=omega) only [zaI,zbe]; rfl
 have step:∀ (code:Int),0≤code→code≤1→(∀ (out:List zaJ) (d:zae),Inv (code+1) out→DOk d→Res (zdc ps n (List.map zaN out) d (code+1)))→∀ (out:List zaJ) (d:zae),Inv code out→DOk d→Res (zdc ps n (List.map zaN out) d code):=by
  intro code hc0 hc1 next out d hi hd
  have third:∀ (l:List zaE),(∀ p∈l,p∈ps∧p.Code=code)→l.length≤3→∀ (m:Nat) (c:Int) (out:List zaJ) (d:zae),c+m=n+1→1≤c→(∀ x∈out,(∃ p∈ps,zl5 n p x)∧x.Number < code*10000+c)→AscBy zaJ.Number out→(out.length:Int)≤code*n+(c - 1)→DOk d→Res (zeO ps n code (List.map zaG l) (List.map zaN out) d c):=by
   intro l hl hll m
   induction m with
   | zero =>
     intro c out d hc h1 g1 g2 g3 hd; obtain ⟨l',d',e1,h⟩:=next out d ⟨fun x hx=>⟨(g1 x hx).1,by have:=(g1 x hx).2; rw [Int.add_mul]; omega⟩,g2,by rw [Int.add_mul]; omega⟩ hd
     refine ⟨l',d',zf6 _ _ _ _ _ _ _ ?_,h⟩; simp (disch:=omega) only [zaI,w64_id,e1]
   | succ m ih =>
     intro c out d hc h1 g1 g2 g3 hd; have hcn:code*n≤9:=by rcases (by omega:code=0∨code=1) with h | h <;> rw [h] <;> omega
     have hol:out.length≤20:=by omega
     by_cases hlz:0 < l.length
     · obtain ⟨n0,d0,e0,a0,b0,hd0⟩:=zcg d 5 hd (by omega); by_cases h0:0 < n0
       · obtain ⟨n1,d1,e1,a1,b1,hd1⟩:=zcg d0 l.length hd0 (by omega); have hlt:n1.toNat < l.length:=by omega
         obtain ⟨hp1,hp2⟩:=hl _ (zbc hlt); obtain ⟨q1,q2,q3⟩:=hps.2.2.1 _ hp1; obtain ⟨x,d2,e2,hx,hxc,hd2⟩:=c_Script d1 l[n1.toNat] c n hd1 q1 (by omega) (by omega) hn.2; have hxn:=hx.2.2.1
         obtain ⟨l',d',e3,h⟩:=ih (c+1) (out++[x]) d2 (by omega) (by omega)
          (by
           intro y hy; rcases zb3.1 hy with hy | hy
           · exact ⟨(g1 y hy).1,by have:=(g1 y hy).2; omega⟩
           · simp only [zc9] at hy; subst hy
             exact ⟨⟨_,hp1,hx⟩,by rw [hxn,hp2,hxc]; omega⟩)
          (asc_snoc g2 (fun y hy=>by rw [hxn,hp2,hxc]; exact (g1 y hy).2))
          (by simp; omega) hd2
         refine ⟨l',d',zf6 _ _ _ _ _ _ _ ?_,h⟩; simp (disch:=omega) only [zal,zaA,e0,zaY,e1,zak,zbe,zbL,ze0,zaz hlt,zaV,e2,zrx,w64_id,zcl zaN,e3]
       · obtain ⟨l',d',e3,h⟩:=ih (c+1) out d0 (by omega) (by omega) (fun y hy=>⟨(g1 y hy).1,by have:=(g1 y hy).2; omega⟩) g2 (by omega) hd0; refine ⟨l',d',zf6 _ _ _ _ _ _ _ ?_,h⟩; simp (disch:=omega) only [zal,zaA,zaI,e0,zaY,w64_id,e3]
     · obtain ⟨l',d',e1,h⟩:=next out d ⟨fun x hx=>⟨(g1 x hx).1,by have:=(g1 x hx).2; rw [Int.add_mul]; omega⟩,g2,by rw [Int.add_mul]; omega⟩ hd
       refine ⟨l',d',zf6 _ _ _ _ _ _ _ ?_,h⟩; simp (disch:=omega) only [zal,zaA,zaI,w64_id,e1]
  have second:=zdi ps (fun i r=>∀ l:List zaE,(∀ p∈l,p∈ps∧p.Code=code)→(l.length:Int)≤i→Res (zeN ps n (List.map zaN out) d code (List.map zaG l) i)) ?_ ?_ [] (by simp) (by simp)
  · obtain ⟨l',d',e1,h⟩:=second; refine ⟨l',d',zmQ _ _ _ _ _ ?_,h⟩; simp (disch:=omega) only [zaA]; exact e1
  · intro l hl hll; obtain ⟨l',d',e1,h⟩:=third l hl (by omega) n.toNat 1 out d (by omega) (by omega) (fun x hx=>⟨(hi.1 x hx).1,by have:=(hi.1 x hx).2; omega⟩) hi.2.1 (by have:=hi.2.2; omega) hd; refine ⟨l',d',zij _ _ _ _ _ _ _ ?_,h⟩; simp (disch:=omega) only [zal,zaI,e1]
  · intro i hi' r hr ih l hl hll; by_cases hcode:ps[i].Code=code
    · obtain ⟨l',d',e1,h⟩:=ih (l++[ps[i]]) (by
       intro p hp; rcases zb3.1 hp with hp | hp
       · exact hl p hp
       · simp only [zc9] at hp; subst hp
         exact ⟨zbc hi',hcode⟩) (by simp; omega)
      refine ⟨l',d',zij _ _ _ _ _ _ _ ?_,h⟩; simp (disch:=omega) only [zal,zaA,zak,zbe,za2,ze0,zaz hi',zaV,show (ps[i].Code == code)=true by simpa using hcode,zaF,w64_id,zcl zaG,e1]
    · obtain ⟨l',d',e1,h⟩:=ih l hl (by omega); refine ⟨l',d',zij _ _ _ _ _ _ _ ?_,h⟩; simp (disch:=omega) only [zal,zaA,zak,zbe,za2,ze0,zaz hi',zaV,show (ps[i].Code == code)=false by simpa using hcode,zaq,w64_id,e1]
 have stage1:=step 1 (by omega) (by omega) stage2; have stage0:=step 0 (by omega) (by omega) stage1; obtain ⟨l,d',e1,h⟩:=stage0 [] d ⟨by simp,fun j hj=>by simp at hj,by simp⟩ hd; exact ⟨l,d',zut d ps n e1,h⟩
def zyh:zaE:=⟨0,0,[]⟩
theorem ztd (ps:List zaE) (x:zaJ) (hl:ps.length≤1000000):cw zkn [.sl 3 (List.map zaG ps),.agg (zaN x)] []=some (zni (((zfl ps x).map (·.2)).getD zyh)):=by
 refine zBE ps x ?_; have key:=zfG ps (fun p=>p.Code == x.Paper && p.Variant == x.Variant) (fun i=>zia ps x i) (fun o=>zni ((o.map (·.2)).getD zyh)) ?_ ?_ ?_
 · exact key
 · exact zog _ _ _ (by simp (disch:=omega) [zaI] <;> rfl)
 · intro i hi h; refine zog _ _ _ ?_; rw [zbQ] at h; simp (disch:=omega) [zaA,zak,h.1,h.2]; rfl
 · intro i hi y h hk; refine zog _ _ _ ?_
   cases h1:(ps[i].Code == x.Paper) with
   | false=>simp (disch:=omega) [zaA,zak,w64_id,h1,hk]
   | true=>rw [h1,zhD] at h; simp (disch:=omega) [zaA,zak,w64_id,h1,h,hk]
theorem c_Seed (d:zae) (ps:List zaE) (x:zaJ) (k:Nat) (p:zaE) (hd:DOk d) (hps:ps.length≤1000000) (hk:zfl ps x=some (k,p)) (hp:DPaper p):∃ (y:GSeed) (d':zae),cw zmd [.loc 1000 2 0 0,.sl 3 (List.map zaG ps),.agg (zaN x)] (mD d)=some (ziR (y,d'))∧y.Script=x.Number∧zrX p y.Marks∧DOk d':=by
 have hl:=hp.1; have loop:=zdi p.Parts (fun i r=>∀ (a:List Int) (d2:zae),(a.length:Int)=i→DOk d2→(∀ (j:Nat) (x:GPart) (v:Int),p.Parts[j]?=some x→a[j]?=some v→0≤v∧v≤x.Max)→∃ (y:GSeed) (d':zae),zhi x p (List.map zaj a) d2 i=some (ziR (y,d'))∧y.Script=x.Number∧zrX p y.Marks∧DOk d') ?_ ?_ [] d (by simp) hd (by intro j x v _ h; simp at h)
 · obtain ⟨y,d',e2,h⟩:=loop; refine ⟨y,d',zxD d ps x ?_,h⟩; simp only [ztd ps x hps,hk,ziC]; exact e2
 · intro a d2 ha hd2 hok; refine ⟨⟨x.Number,a⟩,d2,zoV _ _ _ _ _ ?_,rfl,⟨by dsimp only; omega,hok⟩,hd2⟩; simp (disch:=omega) only [zal,zaI,zbL,zbR,zbe,w64_id]; rw [zcr (by simp)]; rfl
 · intro i hi r hr ih a d2 ha hd2 hok; obtain ⟨hx,hx2⟩:=hp.2.2.1 _ (zbc hi); have hm:=hx.1; obtain ⟨v,d3,e3,a3,b3,hd3⟩:=zcg d2 (p.Parts[i].Max+1) hd2 (by omega)
   obtain ⟨y,d',e2,h⟩:=ih (a++[v]) d3 (by simp; omega) hd3 (by
    intro j x w hj hw; by_cases hja:j < a.length
    · rw [znH hja] at hw; exact hok j x w hj hw
    · have:=(zbt.1 hw).1; simp at this; have hji:j=a.length:=by omega
      subst hji; simp at hw; subst hw; have:i=a.length:=by omega
      subst this; rw [zaz hi] at hj; injection hj with hj; subst hj
      omega)
   refine ⟨y,d',zoV _ _ _ _ _ ?_,h⟩; simp (disch:=omega) only [zal,zaA,zak,zbe,za2,zdx,zaz hi,zaV,w64_id,e3,zaY,zcl zaj,e2]
theorem c_Monitor (d:zae) (hd:DOk d):∃ (r:za8) (d':zae),cw zjE [.loc 1000 2 0 0] (mD d)=some (zjH (r,d'))∧OkMon r∧DOk d':=by obtain ⟨n0,d0,e0,a0,b0,hd0⟩:=zcg d 3 hd (by omega); obtain ⟨n1,d1,e1,a1,b1,hd1⟩:=zcg d0 2 hd0 (by omega); obtain ⟨n2,d2,e2,a2,b2,hd2⟩:=zcg d1 3 hd1 (by omega); obtain ⟨n3,d3,e3,a3,b3,hd3⟩:=zcg d2 (1+n0) hd2 (by omega); refine ⟨⟨n1,n2,1+n0,1+n3⟩,d3,zus d ?_,by refine ⟨?_,?_,?_,?_⟩ <;> dsimp only <;> omega,hd3⟩; simp (disch:=omega) only [e0,e1,e2,zaY,w64_id,e3]; rfl
structure DSetup (s:zay):Prop where
 ok:zcM s
 papers:zkQ s.Papers
 markers:DMarkers s.Markers
 scripts:zsQ 4 s.Papers s.Scripts
theorem ztP {ps:List zaE} (hps:zkQ ps) {n:Int} {p:zaE} {x:zaJ} (hp:p∈ps) (hx:zl5 n p x):∃ k,zfl ps x=some (k,p):=by
 unfold zfl
 cases hf:fnd (fun p=>p.Code == x.Paper && p.Variant == x.Variant) 0 ps with
 | none=>have:=zn7.1 hf p hp; rw [hx.1,hx.2.1] at this; simp at this
 | some q=>obtain ⟨k,p'⟩:=q; obtain ⟨h1,h2,_⟩:=fnd_at hf; simp only [zbQ,beq_iff_eq] at h2; have:=hps.2.2.2 p' (zbN h1) p hp (by rw [h2.1,hx.1]) (by rw [h2.2,hx.2.1]); rw [this]; exact ⟨k,rfl⟩
theorem scripts_ok {n:Int} (hn:n≤9) {ps:List zaE} (hps:zkQ ps) {l:List zaJ} (h:zsQ n ps l):zoy l:=by refine ⟨by have:=h.2.2; omega,fun x hx=>?_,h.2.1⟩; obtain ⟨p,hp,a,b,c,d,e,f,_⟩:=h.1 x hx; obtain ⟨q1,q2,q3⟩:=hps.2.2.1 p hp; exact ⟨by omega,by omega,by omega,by omega,by rw [c,a],by omega⟩
theorem c_Setup (d:zae) (hd:DOk d):∃ (s:zay) (d':zae),cw zlu [.loc 1000 2 0 0] (mD d)=some (zh2 (s,d'))∧DSetup s∧DOk d':=by
 obtain ⟨ps,cs,d0,e0,o0,p0,q0,hd0⟩:=c_Papers d hd; obtain ⟨ms,d1,e1,o1,hd1⟩:=c_Markers d0 hd0; obtain ⟨xs,d2,e2,o2,hd2⟩:=c_Scripts d1 ps 4 hd1 o0 (by omega); obtain ⟨mr,d3,e3,o3,hd3⟩:=c_Monitor d2 hd2; have hxl:=o2.2.2; have hpl:=o0.2.1; have hxs:=scripts_ok (by omega) o0 o2; have loop:=zdi xs (fun i r=>∀ (sd:List GSeed) (d4:zae),(sd.length:Int)≤i→DOk d4→AscBy GSeed.Script sd→(∀ y∈sd,∀ x∈r,y.Script < x.Number)→(∀ y∈sd,∃ x∈xs,∃ k p,y.Script=x.Number∧zfl ps x=some (k,p)∧zrX p y.Marks)→∃ (s:zay) (d':zae),zfu ((ps,cs),d0) (ms,d1) (xs,d2) (mr,d3) (List.map zb0 sd) d4 i=some (zh2 (s,d'))∧DSetup s∧DOk d') ?_ ?_ [] d3 (by simp) hd3 (fun j hj=>by simp at hj) (by simp) (by simp)
 · obtain ⟨s,d',e4,h⟩:=loop; refine ⟨s,d',zwh d ?_,h⟩; simp only [e0,e1,e2,e3,zrv,zqU,zqW,zqV]; exact e4
 · intro sd d4 hl hd4 ha _ hs; refine ⟨⟨ms,xs,ps,cs,sd,mr⟩,d4,zjJ _ _ _ _ _ _ _ ?_,?_,hd4⟩
   · simp (disch:=omega) only [zal,zaI,zbL,zbR,zbe]; rw [zcr (by simp),zcr (by simp),zcr (by simp)]; rfl
   · refine ⟨⟨o1.2.2.1,hxs,by dsimp only; omega,p0,fun j p c hp hc=>(q0 j p c hp hc).1,fun x hx=>?_,by dsimp only; omega,ha,fun y hy=>?_,o3,fun c hc=>?_,fun m hm=>by have:=o1.2.2.2.1 m hm; omega⟩,o0,o1,o2⟩
     · obtain ⟨p,hp,hxp⟩:=o2.1 x hx; obtain ⟨k,hk⟩:=ztP o0 hp hxp; have hpk:=(zfS hk).1; have hlt:=(zbt.1 hpk).1; exact ⟨k,p,cs[k]'(show k < cs.length by omega),hk,zaz _,hxp.2.2.2.2.2.2.2⟩
     · obtain ⟨x,hx,k,p,h1,h2,h3⟩:=hs y hy; refine ⟨k,p,?_,h3⟩; unfold zoc; dsimp only; rw [h1,zBV hxs.2.2 hx]; exact h2
     · obtain ⟨j,hj,rfl⟩:=zl6.1 hc; exact (q0 j _ _ (zaz (by simp only at hj; omega)) (zaz hj)).2
 · intro i hi r hr ih sd d4 hl hd4 ha hlt hs; obtain ⟨b,d5,e5,hd5⟩:=zsj d4 3 hd4 (by omega)
   have hrm:∀ x∈r,x∈xs∧xs[i].Number < x.Number:=by intro x hx; rw [← hr] at hx; obtain ⟨j,hj,rfl⟩:=zl6.1 hx; rw [List.getElem_drop]; exact ⟨zbc _,asc_lt hxs.2.2 i _ _ (by omega)⟩
   cases b with
   | false=>obtain ⟨s,d',e4,h⟩:=ih sd d5 (by omega) hd5 ha (fun y hy x hx=>hlt y hy x (by simp [hx])) hs; refine ⟨s,d',zjJ _ _ _ _ _ _ _ ?_,h⟩; simp (disch:=omega) only [zal,zaA,e5,zb1,zaq,w64_id,e4]
   | true =>
     obtain ⟨p,hp,hxp⟩:=o2.1 _ (zbc hi); obtain ⟨k,hk⟩:=ztP o0 hp hxp; obtain ⟨y,d6,e6,h1,h2,hd6⟩:=c_Seed d5 ps xs[i] k p hd5 (by omega) hk (o0.2.2.1 p hp).1
     obtain ⟨s,d',e4,h⟩:=ih (sd++[y]) d6 (by simp; omega) hd6 (asc_snoc ha (fun z hz=>by rw [h1]; exact hlt z hz _ (by simp)))
      (by
       intro z hz x hx; rcases zb3.1 hz with hz | hz
       · exact hlt z hz x (by simp [hx])
       · simp only [zc9] at hz; subst hz; rw [h1]
         exact (hrm x hx).2)
      (by
       intro z hz; rcases zb3.1 hz with hz | hz
       · exact hs z hz
       · simp only [zc9] at hz; subst hz
         exact ⟨_,zbc hi,k,p,h1,hk,h2⟩)
     refine ⟨s,d',zjJ _ _ _ _ _ _ _ ?_,h⟩; simp (disch:=omega) only [zal,zaA,e5,zb1,zaF,zak,zbe,zbL,za2,zgZ,zaz hi,zaV,e6,zth,w64_id,zcl zb0,e4]
def Sat {β:Type} (Q:β→Prop) (o:Option β):Prop:=∃ y,o=some y∧Q y
theorem sat_of {β:Type} {Q:β→Prop} {a b:Option β} (h:∀ y,a=some y→b=some y) (ha:Sat Q a):Sat Q b:=by obtain ⟨y,e,hq⟩:=ha; exact ⟨y,h y e,hq⟩
theorem sat_some {β:Type} {Q:β→Prop} {y:β} (h:Q y):Sat Q (some y):=⟨y,rfl,h⟩
theorem ofScript {s:zay} (hs:DSetup s) {x:zaJ} (hx:x∈s.Scripts):∃ k p,zfl s.Papers x=some (k,p)∧p∈s.Papers∧zl5 4 p x∧DPaper p:=by obtain ⟨p,hp,h⟩:=hs.scripts.1 x hx; obtain ⟨k,hk⟩:=ztP hs.papers hp h; exact ⟨k,p,hk,hp,h,(hs.papers.2.2.1 p hp).1⟩
theorem c_Mark (d:zae) (s:zay) (a b:Int) (hd:DOk d) (hs:DSetup s):∃ (e:zab) (d':zae),cw zmc [.loc 1000 2 0 0,.agg (zar s),I a,I b] (mD d)=some (zmn (e,d'))∧e.Pages.length≤12∧DOk d':=by
 have hm:=hs.markers; have hsl:=hs.scripts.2.2; have hpl:=hs.papers.2.1; obtain ⟨n0,d0,e0,a0,b0,hd0⟩:=zcg d s.Markers.length hd (by have:=hm.2.1; omega); have hlt:n0.toNat < s.Markers.length:=by have:=hm.1; omega
 by_cases hz:s.Scripts.length=0
 · refine ⟨⟨⟨b,s.Markers[n0.toNat].ID,a⟩,0,0,0,0,0,[]⟩,d0,zl9 _ _ _ _ ?_,by simp,hd0⟩; simp (disch:=omega) only [zal,e0,zaY,zak,zd0,zaz hlt,zaV,hz,Int.ofNat_zero,Int.natCast_zero,beq_self_eq_true,zaF,zbL,zbR,zbe]; rfl
 · obtain ⟨n1,d1,e1,a1,b1,hd1⟩:=zcg d0 s.Scripts.length hd0 (by omega); have hl1:n1.toNat < s.Scripts.length:=by omega
   obtain ⟨k,p,hk,hp,hx,hdp⟩:=ofScript hs (zbc hl1); have hpp:=hdp.1; have hpq:=hdp.2.1; have hpg:=hx.2.2.2.2.2.1; obtain ⟨n2,d2,e2,a2,b2,hd2⟩:=zcg d1 p.Parts.length hd1 (by omega); have hl2:n2.toNat < p.Parts.length:=by omega
   have hx2:=(hdp.2.2.1 _ (zbc hl2)).1.1; obtain ⟨n3,d3,e3,a3,b3,hd3⟩:=zcg d2 (p.Parts[n2.toNat].Max+2) hd2 (by omega); obtain ⟨v,d4,e4,hd4⟩:=zsj d3 12 hd3 (by omega); have hz':((s.Scripts.length:Int) == 0)=false:=by simp; intro h; exact hz (by simpa using h)
   cases v with
   | true=>refine ⟨⟨⟨b,s.Markers[n0.toNat].ID,a⟩,0,s.Scripts[n1.toNat].Number,n2,n3 - 1,0,[]⟩,d4,zl9 _ _ _ _ ?_,by simp,hd4⟩; simp (disch:=omega) only [zal,e0,zaY,zak,zd0,zaz hlt,zaV,hz',zaq,e1,zgZ,zaz hl1,ztd s.Papers _ (show s.Papers.length≤1000000 by omega),hk,zcO,zff,ziC,e2,zdx,zaz hl2,w64_id,e3,e4,zb1,zaF]; exact zsM _ _ _ _ _ _ _ (by simp (disch:=omega) only [zbL,zbR,zbe,w64_id]; rfl)
   | false =>
     refine ⟨⟨⟨b,s.Markers[n0.toNat].ID,a⟩,0,s.Scripts[n1.toNat].Number,n2,n3 - 1,0,s.Scripts[n1.toNat].Pages⟩,d4,zl9 _ _ _ _ ?_,by dsimp only; omega,hd4⟩; simp (disch:=omega) only [zal,e0,zaY,zak,zd0,zaz hlt,zaV,hz',zaq,e1,zgZ,zaz hl1,ztd s.Papers _ (show s.Papers.length≤1000000 by omega),hk,zcO,zff,ziC,e2,zdx,zaz hl2,w64_id,e3,e4,zb1,zaq]
     exact zq1 _ _ _ _ _ _ _ (by
      simp (disch:=omega) only [zbL,zal,zbR,zbe,w64_id]; rw [zcr (by simp)]
      rfl)
set_option maxRecDepth 20000 in
theorem c_Events (d:zae) (s:zay) (n:Int) (hd:DOk d) (hs:DSetup s) (hn:0≤n∧n≤50):∃ (l:List zab) (d':zae),cw zkk [.loc 1000 2 0 0,.agg (zar s),I n] (mD d)=some (zdX (l,d'))∧(l.length:Int)≤n∧(∀ e∈l,e.Pages.length≤12)∧DOk d':=by
 have hm:=hs.markers; have hm1:=hm.1; have hm2:=hm.2.1; have hsl:=hs.scripts.2.2
 let Q:AV×Mem→Prop:=fun y=>∃ (l:List zab) (d':zae),y=zdX (l,d')∧(l.length:Int)≤n∧(∀ e∈l,e.Pages.length≤12)∧DOk d'
 have loop:∀ (m:Nat) (i:Int) (out:List zab) (d:zae),i+m=n→0≤i→(out.length:Int)≤i→(∀ e∈out,e.Pages.length≤12)→DOk d→Sat Q (zbX s n (List.map zaa out) d i):=by
  intro m
  induction m with
  | zero=>intro i out d hi h0 hl hp hd; refine sat_of (fun y=>znl _ _ _ _ _) ?_; simp (disch:=omega) only [zaI,zbe]; exact sat_some ⟨out,d,rfl,by omega,hp,hd⟩
  | succ m ih =>
    intro i out d hi h0 hl hp hd; have stay:∀ d',DOk d'→Sat Q (zbX s n (List.map zaa out) d' (i+1)):=fun d' hd'=>ih (i+1) out d' (by omega) (by omega) (by omega) hp hd'
    have more:∀ e d',e.Pages.length≤12→DOk d'→Sat Q (zbX s n (List.map zaa (out++[e])) d' (i+1)):=fun e d' he hd' =>
     ih (i+1) (out++[e]) d' (by omega) (by omega) (by simp; omega) (by
      intro x hx; rcases zb3.1 hx with hx | hx
      · exact hp x hx
      · simp only [zc9] at hx
        exact hx▸he) hd'
    obtain ⟨n0,d0,e0,a0,b0,hd0⟩:=zcg d 20 hd (by omega); obtain ⟨n1,d1,e1,a1,b1,hd1⟩:=zcg d0 14 hd0 (by omega); refine sat_of (fun y=>znl _ _ _ _ _) ?_; by_cases c0:n1=0
    · obtain ⟨n2,d2,e2,a2,b2,hd2⟩:=zcg d1 s.Markers.length hd1 (by omega); have hlt:n2.toNat < s.Markers.length:=by omega
      simp only [eq_self,zbe]; simp (disch:=omega) only [zal,zaA,e0,zaY,e1,show (n1 == 0)=true by simpa using c0,zaF,e2,zak,zd0,zaz hlt,zaV,zbe,w64_id]; simp only [zcl zaa]; exact more _ _ (by simp) hd2
    · by_cases c1:n1=1
      · by_cases hz:0 < s.Scripts.length
        · obtain ⟨n2,d2,e2,a2,b2,hd2⟩:=zcg d1 s.Scripts.length hd1 (by omega); have hlt:n2.toNat < s.Scripts.length:=by omega
          obtain ⟨n3,d3,e3,a3,b3,hd3⟩:=zcg d2 3 hd2 (by omega); simp only [eq_self,zbe]; simp (disch:=omega) only [zal,zaA,e0,zaY,e1,show (n1 == 0)=false by simpa using c0,show (n1 == 1)=true by simpa using c1,zaF,zaq,e2,e3,zak,zgZ,zaz hlt,zaV,zbe,w64_id]; simp only [zcl zaa]; exact more _ _ (by simp) hd3
        · simp (disch:=omega) only [zal,zaA,zaI,e0,zaY,e1,show (n1 == 0)=false by simpa using c0,show (n1 == 1)=true by simpa using c1,zaF,zaq,w64_id]; exact stay _ hd1
      · by_cases c2:n1=2
        · by_cases hz:0 < out.length
          · obtain ⟨n2,d2,e2,a2,b2,hd2⟩:=zcg d1 out.length hd1 (by omega); have hlt:n2.toNat < out.length:=by omega
            simp only [eq_self,zbe]; simp (disch:=omega) only [zal,zaA,e0,zaY,e1,show (n1 == 0)=false by simpa using c0,show (n1 == 1)=false by simpa using c1,show (n1 == 2)=true by simpa using c2,zaF,zaq,e2,zak,zbL,zbD,zaz hlt,zaV,zbe,w64_id]; simp only [zcl zaa]; exact more _ _ (hp _ (zbc hlt)) hd2
          · simp (disch:=omega) only [zal,zaA,zaI,e0,zaY,e1,show (n1 == 0)=false by simpa using c0,show (n1 == 1)=false by simpa using c1,show (n1 == 2)=true by simpa using c2,zaF,zaq,w64_id]; exact stay _ hd1
        · by_cases c3:n1=3
          · by_cases hz:0 < out.length
            · obtain ⟨n2,d2,e2,a2,b2,hd2⟩:=zcg d1 out.length hd1 (by omega); have hlt:n2.toNat < out.length:=by omega
              simp only [eq_self,zbe]; simp (disch:=omega) only [zal,zaA,e0,zaY,e1,show (n1 == 0)=false by simpa using c0,show (n1 == 1)=false by simpa using c1,show (n1 == 2)=false by simpa using c2,show (n1 == 3)=true by simpa using c3,zaF,zaq,e2,zak,zbL,zbD,zaz hlt,zaV,zbe,w64_id (n:=i+1)]; simp only [zcl zaa]; exact more _ _ (show out[n2.toNat].Pages.length≤12 from hp _ (zbc hlt)) hd2
            · simp (disch:=omega) only [zal,zaA,zaI,e0,zaY,e1,show (n1 == 0)=false by simpa using c0,show (n1 == 1)=false by simpa using c1,show (n1 == 2)=false by simpa using c2,show (n1 == 3)=true by simpa using c3,zaF,zaq,w64_id]; exact stay _ hd1
          · obtain ⟨e,d2,e2,he,hd2⟩:=c_Mark d1 s i (w64 (w64 (5*i)+n0)) hd1 hs; simp only [eq_self,zbe]; simp (disch:=omega) only [zal,zaA,e0,zaY,e1,show (n1 == 0)=false by simpa using c0,show (n1 == 1)=false by simpa using c1,show (n1 == 2)=false by simpa using c2,show (n1 == 3)=false by simpa using c3,zaq,e2,ztg,zak,zbe,w64_id (n:=i+1)]; simp only [zcl zaa]; exact more _ _ he hd2
 obtain ⟨y,e1,l,d',rfl,h⟩:=loop n.toNat 0 [] d (by omega) (by omega) (by simp) (by simp) hd; exact ⟨l,d',zu4 _ _ _ e1,h⟩
def FullEv (n:Int) (e:zab):Prop:=e.Pages.length≤12∧e.Kind=0∧n≤e.Stamp.Time∧e.Stamp.Time≤n+120∧1000≤e.Stamp.Seq∧e.Marker=0
theorem c_FullK (d:zae) (s:zay) (n:Int) (hd:DOk d) (hs:DSetup s) (hn:0≤n∧n≤1000):∃ (l:List zab) (d':zae),cw ziE [.loc 1000 2 0 0,.agg (zar s),I n] (mD d)=some (zdX (l,d'))∧l.length≤120∧(∀ e∈l,FullEv n e)∧DOk d':=by
 have hm2:=hs.markers.2.1; have hsl:=hs.scripts.2.2; have hpl:=hs.papers.2.1
 let Q:AV×Mem→Prop:=fun y=>∃ (l:List zab) (d':zae),y=zdX (l,d')∧l.length≤120∧(∀ e∈l,FullEv n e)∧DOk d'
 have loop:=zdi s.Scripts (fun i _=>∀ (out:List zab) (d:zae),(out.length:Int)≤15*i→(∀ e∈out,FullEv n e)→DOk d→Sat Q (zhg s n (List.map zaa out) d i)) ?_ ?_ [] d (by simp) (by simp) hd
 · obtain ⟨y,e1,l,d',rfl,h⟩:=loop; exact ⟨l,d',zxB _ _ _ e1,h⟩
 · intro out d hl hp hd; refine sat_of (fun y=>zoS _ _ _ _ _) ?_; simp (disch:=omega) only [zal,zaI,zbe]; exact sat_some ⟨out,d,rfl,by omega,hp,hd⟩
 · intro i hi r _ ih out d hl hp hd; obtain ⟨k,p,hk,hpm,hx,hdp⟩:=ofScript hs (zbc hi); have hpp:=hdp.1; have hpg:=hx.2.2.2.2.2.1; refine sat_of (fun y=>zoS _ _ _ _ _) ?_; simp (disch:=omega) only [zal,zaA,zak,za2,zgZ,zaz hi,zaV,ztd s.Papers _ (show s.Papers.length≤1000000 by omega),hk,zcO,zff,ziC]; refine zdi s.Markers (fun j _=>∀ (out:List zab) (d:zae),(out.length:Int)≤15*i+3*j→(∀ e∈out,FullEv n e)→DOk d→Sat Q (zhh s n i p (List.map zaa out) d j)) ?_ ?_ out d (by omega) hp hd
   · intro out d hl hp hd; refine sat_of (fun y=>zoT _ _ _ _ _ _ _) ?_; simp (disch:=omega) only [zal,zaI,w64_id]; exact ih out d (by omega) hp hd
   · intro j hj r _ ih2 out d hl hp hd; refine sat_of (fun y=>zoT _ _ _ _ _ _ _) ?_; simp (disch:=omega) only [zal,zaA]; refine zdi p.Parts (fun q _=>∀ (out:List zab) (d:zae),(out.length:Int)≤15*i+3*j+q→(∀ e∈out,FullEv n e)→DOk d→Sat Q (zeM s n i p j (List.map zaa out) d q)) ?_ ?_ out d (by omega) hp hd
     · intro out d hl hp hd; refine sat_of (fun y=>zoU _ _ _ _ _ _ _ _) ?_; simp (disch:=omega) only [zal,zaI,w64_id]; exact ih2 out d (by omega) hp hd
     · intro q hq r _ ih3 out d hl hp hd; have hmx:=(hdp.2.2.1 _ (zbc hq)).1.1; refine sat_of (fun y=>zoU _ _ _ _ _ _ _ _) ?_; by_cases hkd:p.Parts[q].Kind=1
       · obtain ⟨n0,d0,e0,a0,b0,hd0⟩:=zcg d 4 hd (by omega); by_cases hz:0 < n0
         · obtain ⟨n1,d1,e1,a1,b1,hd1⟩:=zcg d0 (p.Parts[q].Max+1) hd0 (by omega); simp (disch:=omega) only [zal,zaA,zak,za2,zdx,zaz hq,zaV,show (p.Parts[q].Kind == 1)=true by simpa using hkd,zaF,e0,zaY,zd0,zaz hj,zgZ,zaz hi,w64_id,e1,zbe,zcl zaa]; refine ih3 (out++[_]) d1 (by simp; omega) ?_ hd1; intro x hx'; rcases zb3.1 hx' with hx' | hx'
           · exact hp x hx'
           · simp only [zc9] at hx'; subst hx'; refine ⟨?_,rfl,?_,?_,?_,rfl⟩ <;> dsimp only <;> omega
         · simp (disch:=omega) only [zal,zaA,zaI,zak,za2,zdx,zaz hq,zaV,show (p.Parts[q].Kind == 1)=true by simpa using hkd,zaF,e0,zaY,w64_id]; exact ih3 out d0 (by omega) hp hd0
       · simp (disch:=omega) only [zal,zaA,zaI,zak,za2,zdx,zaz hq,zaV,show (p.Parts[q].Kind == 1)=false by simpa using hkd,zaq,w64_id]; exact ih3 out d (by omega) hp hd
theorem c_Full (d:zae) (s:zay) (n:Int) (hd:DOk d) (hs:DSetup s) (hn:0≤n∧n≤1000:=by omega):∃ (l:List zab) (d':zae),cw ziE [.loc 1000 2 0 0,.agg (zar s),I n] (mD d)=some (zdX (l,d'))∧l.length≤120∧(∀ e∈l,e.Pages.length≤12)∧DOk d':=by obtain ⟨l,d',h1,h2,h3,h4⟩:=c_FullK d s n hd hs hn; exact ⟨l,d',h1,h2,fun e he=>(h3 e he).1,h4⟩
theorem zAw (s:zaQ):cw zo6 [.agg (zbG s)] []=some (zag (dec (zmt s))):=by
 refine zAE s ?_; simp only [zdS,decide_eq_true_eq]
 repeat' split
 all_goals first
  | (rw [za3 (by unfold zmt; omega)]; rfl)
  | (rw [show decide (s.Seq≤9999)=dec (zmt s) from zei (by simp only [decide_eq_true_eq]; unfold zmt; omega)]; rfl)
theorem zpw (a b c:Int):cw zhd [I a,I b,I c] []=some (zag (dec (b≤a∧a≤c))):=by
 refine e_ref28_in a b c ?_; simp only [zdS,decide_eq_true_eq]; split
 · rw [show decide (a≤c)=dec (b≤a∧a≤c) from zei (by simp only [decide_eq_true_eq]; omega)]; rfl
 · rw [za3 (by omega)]; rfl
theorem zAz (e:zab):cw zo9 [.agg (zaa e)] []=some (zag (dec (zpO e))):=by
 refine zAH e ?_; simp only [zAw,zpw,zam,zam,zal]; by_cases h1:zmt e.Stamp
 · by_cases h2:0≤e.Script∧e.Script≤319999
   · by_cases h3:e.Pages.length≤12
     · simp (disch:=omega) only [zbi h1,zbi h2,zbv,zaq,zaI]; have H:=ziB e.Pages.length (fun j hj=>0≤e.Pages[j]∧e.Pages[j]≤1152921504606846976) (fun i=>zjU e i) (fun b=>zag (b && dec (OkKind e))) ?_ ?_ ?_
       · rw [H]; congr 2; rw [zpW]; simp only [zbQ,zrC,zpO]; rw [znV (G:=fun n=>0≤n∧n≤1152921504606846976)]; exact ⟨fun ⟨a,b⟩=>⟨h1,h2,h3,a,b⟩,fun ⟨_,_,_,a,b⟩=>⟨a,b⟩⟩
       · refine znv _ _ ?_; simp (disch:=omega) only [zal,zaI,zpw,zam,zhD]; simp only [zdS,decide_eq_true_eq,beq_iff_eq,zrC]
         repeat' split
         all_goals first
          | (rw [za3 (by unfold OkKind; omega)]; rfl)
          | (refine congrArg some (congrArg zag (?_:_=dec (OkKind e)):_=zag _)
             refine zei ?_; simp only [beq_iff_eq]; unfold OkKind
             omega)
       · intro i hi hn; refine znv _ _ ?_; simp (disch:=omega) only [zal,zaA,zak,za2,zco,zaz hi,zaV,zpw,zam,za3 hn,zca,zaF,ziz]; rfl
       · intro i hi y hg hk; refine znv _ _ ?_; simp (disch:=omega) only [zal,zaA,zak,za2,zco,zaz hi,zaV,zpw,zam,zbi hg,zbv,zaq,w64_id,hk]
     · simp (disch:=omega) only [zbi h1,zbi h2,zbv,zaq,zaA]; rw [za3 (fun h=>h3 h.2.2.1)]; rfl
   · simp only [zbi h1,za3 h2,zbv,zca,zaq,zaF]; rw [za3 (fun h=>h2 h.2.1)]; rfl
 · simp only [za3 h1,zca,zaF]; rw [za3 (fun h=>h1 h.1)]; rfl
theorem zwC (a b:List Int) (hl:a.length≤1000000):cw zgc [.sl 1 (List.map zaj a),.sl 1 (List.map zaj b)] []=some (zag (dec (a=b))):=by
 refine zwq a b ?_; by_cases h:a.length=b.length
 · simp only [zal,h,bne_self_eq_false,zaq]; have H:=ziB a.length (fun j hj=>a[j]=b[j]'(by omega)) (fun i=>zgM a b i) zag ?_ ?_ ?_
   · rw [H,zfj]; exact ⟨fun hh=>zqe h (fun i h1 h2=>hh i h1),fun hh=>by subst hh; intros; rfl⟩
   · exact zjL _ _ _ (by simp (disch:=omega) only [zal,zaI]; rfl)
   · intro i hi hn; refine zjL _ _ _ ?_; simp (disch:=omega) only [zal,zaA,zak,za2,zco,zaz hi,zaz (show i < b.length by omega),zaV,show (a[i] != b[i]'(by omega))=true by simpa using hn,zaF]; rfl
   · intro i hi y hn hk; refine zjL _ _ _ ?_; simp (disch:=omega) only [zal,zaA,zak,za2,zco,zaz hi,zaz (show i < b.length by omega),zaV,show (a[i] != b[i]'(by omega))=false by simpa using hn,zaq,w64_id,hk]
 · rw [za3 (fun hh=>h (by rw [hh]))]; simp only [zal,show ((a.length:Int) != (b.length:Int))=true by simp only [bne_iff_ne,ne_eq]; omega,zaF]; rfl
theorem zBs (a b:zab) (hl:a.Pages.length≤1000000):cw zqD [.agg (zaa a),.agg (zaa b)] []=some (zag (dec (a=b))):=by
 refine zBI a b ?_; obtain ⟨⟨a1,a2,a3⟩,a4,a5,a6,a7,a8,a9⟩:=a; obtain ⟨⟨b1,b2,b3⟩,b4,b5,b6,b7,b8,b9⟩:=b; simp only [zdS,beq_iff_eq,zbQ,znJ,zwC _ _ hl,zam]
 repeat' split
 all_goals first
  | (rw [za3 (by simp only [zab.mk.injEq,zaQ.mk.injEq]; omega)]; rfl)
  | (refine congrArg some (congrArg zag (zfj ?_):_=zag _)
     simp only [zab.mk.injEq,zaQ.mk.injEq]
     simp [*])
theorem zBr (a b:zaQ):cw zqC [.agg (zbG a),.agg (zbG b)] []=some (zag (lessS a b)):=by
 refine zBH a b ?_; unfold lessS; simp only [zdS,bne_iff_ne]; split
 · rfl
 · split <;> rfl
theorem zzp (a b:zab):cw zn5 [.agg (zaa a),.agg (zaa b)] []=some (zag (lessS a.Stamp b.Stamp)):=by refine zzx a b ?_; simp only [zBr,zam]; rfl
end Go.Proofs.YtikogkgdkdmljaaGreat
end
