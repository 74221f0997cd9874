/- Loops and branches of printed trees. -/
import Derived.Test.YtikogkgdkdmljaaGreatK5
import Derived.Test.YtikogkgdkdmljaaGreatAb9
set_option linter.unusedSimpArgs false
set_option linter.unusedVariables false
noncomputable section
namespace Go.Proofs.YtikogkgdkdmljaaGreat
open Go.Ab
theorem w6Q {n:Int} (h1:-9223372036854775808≤n:=by omega) (h2:n < 9223372036854775808:=by omega):w64 n=n:=w64_id h1 h2
theorem iNQ {c:Prop} [Decidable c] {α:Type} {t e:α} (h:¬c:=by omega):ite c t e=e:=if_neg h
theorem iPQ {c:Prop} [Decidable c] {α:Type} {t e:α} (h:c:=by omega):ite c t e=t:=if_pos h
theorem iNs {c:Prop} [Decidable c] {α:Type} {t e:α} (h:¬c:=by simp):ite c t e=e:=if_neg h
theorem cPQ {p:Prop} {β:Type} {x:Option β} (h:p:=by omega):chk p x=x:=zan h x
theorem zbE {p:Prop} (h:p):dec p=true:=by unfold dec; simp [h]
theorem zbG {p:Prop} (h:¬p):dec p=false:=by unfold dec; simp [h]
theorem zkl {p q:Prop} (h:p↔q):dec p=dec q:=by rw [propext h]
theorem zAo {p:Prop}:dec p=true↔p:=by unfold dec; simp
theorem zmV {b:Bool} {p:Prop} (h:b=true↔p):b=dec p:=by
 by_cases hp:p
 · rw [zbE hp]; exact h.2 hp
 · rw [zbG hp]; cases b with
   | true=>exact absurd (h.1 rfl) hp
   | false=>rfl
theorem zgB {β:Type} (b:Bool) (t e:Option β):brn b t e=if b=true then t else e:=by cases b <;> rfl
variable {α β:Type}
theorem zdJ (l:List α) (P:Int→List α→Prop) (h0:P l.length [])
  (hs:∀ (i:Nat) (hi:i < l.length) (r:List α),l.drop (i+1)=r→P ((i:Int)+1) r→P i (l[i] :: r)):P 0 l:=by
 have key:∀ (n i:Nat),i+n=l.length→P (i:Int) (l.drop i):=by
  intro n
  induction n with
  | zero=>intro i hi; have:l.drop i=[]:=aLiAs24 (by omega); rw [this,show i=l.length by omega]; exact h0
  | succ n ih =>
    intro i hi; have hlt:i < l.length:=by omega
    rw [zf8 hlt]; have:=ih (i+1) (by omega); rw [zoV] at this; exact hs i hlt _ rfl this
 have:=key l.length 0 (by omega); simpa using this
theorem zmR (n:Nat) (G:∀ j,j < n→Prop) (K:Int→Option β) (S:β→Prop) (z:β) (h0:(∀ j hj,G j hj)→K n=some z)
  (hno:∀ (i:Nat) (hi:i < n),(∀ j (hj:j < i),G j (by omega))→¬ G i hi→∃ y,S y∧K i=some y) (hyes:∀ (i:Nat) (hi:i < n) (y:β),G i hi→K ((i:Int)+1)=some y→K i=some y):((∀ j hj,G j hj)∧K 0=some z)∨((∃ j hj,¬ G j hj)∧∃ y,S y∧K 0=some y):=by
 have key:∀ (m i:Nat),i+m=n→(∀ j (hj:j < i) (hn:j < n),G j hn)→((∀ j hj,i≤j→G j hj)∧K (i:Int)=some z)∨((∃ j hj,¬ G j hj)∧∃ y,S y∧K (i:Int)=some y):=by
  intro m
  induction m with
  | zero=>intro i hi hpre; left; refine ⟨fun j hj h=>by omega,?_⟩; rw [show i=n by omega,h0 (fun j hj=>hpre j (by omega) hj)]
  | succ m ih =>
    intro i hi hpre; by_cases hg:G i (by omega)
    · have:=ih (i+1) (by omega) (fun j hj hn=>by
       by_cases e:j=i
       · subst e; exact hg
       · exact hpre j (by omega) hn)
      rw [zoV] at this; rcases this with ⟨h1,h2⟩ | ⟨h1,y,h2,h3⟩
      · left; refine ⟨fun j hj h=>?_,hyes i (by omega) z hg h2⟩; by_cases e:j=i
        · subst e; exact hg
        · exact h1 j hj (by omega)
      · exact .inr ⟨h1,y,h2,hyes i (by omega) y hg h3⟩
    · exact .inr ⟨⟨i,by omega,hg⟩,hno i (by omega) (fun j hj=>hpre j hj _) hg⟩
 rcases key n 0 (by omega) (fun j hj=>by omega) with ⟨h1,h2⟩ | h
 · exact .inl ⟨fun j hj=>h1 j hj (zkj _),h2⟩
 · exact .inr h
theorem zln (n:Nat) (G:∀ j,j < n→Prop) (K:Int→Option β) (q:Bool→β) (h0:K n=some (q true))
  (hno:∀ (i:Nat) (hi:i < n),¬ G i hi→K i=some (q false)) (hyes:∀ (i:Nat) (hi:i < n) (y:β),G i hi→K ((i:Int)+1)=some y→K i=some y):K 0=some (q (dec (∀ j hj,G j hj))):=by
 rcases zmR n G K (fun x=>x=q false) (q true) (fun _=>h0) (fun i hi _ h=>⟨_,rfl,hno i hi h⟩) hyes with ⟨h1,h2⟩ | ⟨⟨j,hj,h1⟩,y,rfl,h2⟩
 · rw [h2,zbE h1]
 · rw [h2,zbG (fun h=>h1 (h j hj))]
theorem any_bool (n:Nat) (G:∀ j,j < n→Prop) (K:Int→Option β) (q:Bool→β) (h0:K n=some (q false))
  (hyes:∀ (i:Nat) (hi:i < n),G i hi→K i=some (q true)) (hno:∀ (i:Nat) (hi:i < n) (y:β),¬ G i hi→K ((i:Int)+1)=some y→K i=some y):K 0=some (q (dec (∃ j hj,G j hj))):=by
 have h:=zln n (fun i hi=>¬ G i hi) K (fun b=>q (!b)) (by simpa using h0) (fun i hi hg=>by simpa using hyes i hi (Classical.not_not.1 hg)) hno; rw [h]; congr 2; by_cases hp:∃ j hj,G j hj
 · rw [zbE hp,zbG (fun h=>by obtain ⟨j,h1,h2⟩:=hp; exact h j h1 h2)]; rfl
 · rw [zbG hp,zbE (fun j h1 h2=>hp ⟨j,h1,h2⟩)]; rfl
theorem all_err (n:Nat) (G:∀ j,j < n→Prop) (K:Int→Option β) (q:Int→β) (h0:K n=some (q 0))
  (hno:∀ (i:Nat) (hi:i < n),¬ G i hi→∃ e,e≠0∧K i=some (q e)) (hyes:∀ (i:Nat) (hi:i < n) (y:β),G i hi→K ((i:Int)+1)=some y→K i=some y):∃ e,K 0=some (q e)∧(e=0↔∀ j hj,G j hj):=by
 rcases zmR n G K (fun x=>∃ e,e≠0∧x=q e) (q 0) (fun _=>h0) (fun i hi _ h=>by obtain ⟨e,h1,h2⟩:=hno i hi h; exact ⟨_,⟨e,h1,rfl⟩,h2⟩) hyes with ⟨h1,h2⟩ | ⟨⟨j,hj,h1⟩,y,⟨e,h2,rfl⟩,h3⟩
 · exact ⟨0,h2,by simp; exact h1⟩
 · exact ⟨e,h3,fun h=>absurd h h2,fun h=>absurd (h j hj) h1⟩
theorem all_from (s n:Nat) (hs:s≤n) (G:∀ j,s≤j→j < n→Prop) (K:Int→Option β) (q:Bool→β) (h0:K n=some (q true))
  (hno:∀ (i:Nat) (hs:s≤i) (hi:i < n),¬ G i hs hi→K i=some (q false)) (hyes:∀ (i:Nat) (hs:s≤i) (hi:i < n) (y:β),G i hs hi→K ((i:Int)+1)=some y→K i=some y):K s=some (q (dec (∀ j hs hj,G j hs hj))):=by
 have h:=zln (n - s) (fun j hj=>G (s+j) (by omega) (by omega)) (fun i=>K (s+i)) q (by rw [show ((s:Int)+((n - s:Nat):Int))=n by omega]; exact h0)
  (fun i hi hg=>by have:=hno (s+i) (by omega) (by omega) hg; rw [zoV] at this; exact this)
  (fun i hi y hg hk=>by
   have:=hyes (s+i) (by omega) (by omega) y hg (by rw [zoV,Int.add_assoc]; exact hk)
   rw [zoV] at this; exact this)
 rw [Int.add_zero] at h; rw [h]; congr 2; refine zkl ⟨fun h j h1 h2=>?_,fun h j hj=>h (s+j) (by omega) (by omega)⟩; have:=h (j - s) (by omega); simpa only [show s+(j - s)=j by omega] using this
theorem zoF {l:List α} {G:α→Prop}:(∀ j (hj:j < l.length),G l[j])↔∀ x∈l,G x:=by
 constructor
 · intro h x hx; obtain ⟨j,hj,rfl⟩:=zh3.1 hx; exact h j hj
 · exact fun h j hj=>h _ (zbg hj)
theorem zfq {i:Nat} (h:0 < i):((i:Int) - 1).toNat=i - 1:=by omega
theorem zqU {f:α→Int} {l:List α}:(∀ i (hi:i < l.length),∀ h:0 < i,f (l[i - 1]'(by omega)) < f l[i])↔AscBy f l:=by
 constructor
 · intro h j hj; exact h (j+1) hj (by omega)
 · intro h i hi h0; have:=h (i - 1) (by omega); simp only [show i - 1+1=i by omega] at this; exact this
theorem asc_lt {f:α→Int} {l:List α} (h:AscBy f l):∀ (i j:Nat) (hj:j < l.length) (hij:i < j),f (l[i]'(by omega)) < f l[j]:=by
 intro i j hj hij; obtain ⟨d,rfl⟩:∃ d,j=i+1+d:=⟨j - i - 1,by omega⟩
 induction d with
 | zero=>exact h i hj
 | succ d ih=>have h1:=ih (by omega) (by omega); have h2:=h (i+1+d) (by omega); have:l[i+1+(d+1)]'hj=l[i+1+d+1]'(by omega):=rfl; rw [this]; exact Int.lt_trans h1 h2
theorem fnd_some {p:α→Bool}:∀ {l:List α} {i j:Nat} {x:α},fnd p i l=some (j,x)→i≤j∧l[j - i]?=some x∧p x=true∧∀ k y,k < j - i→l[k]?=some y→p y=false
 | [],i,j,x,h=>by simp [fnd] at h
 | a :: l,i,j,x,h=>by
   simp only [fnd] at h; split at h
   · rename_i ha; simp only [zat,zaG] at h; obtain ⟨rfl,rfl⟩:=h; exact ⟨zbR _,by simp,ha,fun k y hk=>by omega⟩
   · rename_i ha; obtain ⟨h1,h2,h3,h4⟩:=fnd_some h; have e:j - i=(j - (i+1))+1:=by omega
     refine ⟨by omega,by rw [e]; simpa using h2,h3,fun k y hk hy=>?_⟩
     cases k with
     | zero=>simp at hy; subst hy; simpa using ha
     | succ k=>exact h4 k y (by omega) (by simpa using hy)
theorem fnd_at {p:α→Bool} {l:List α} {j:Nat} {x:α} (h:fnd p 0 l=some (j,x)):l[j]?=some x∧p x=true∧∀ k y,k < j→l[k]?=some y→p y=false:=by have:=(fnd_some h).2; simpa using this
theorem zm2 {p:α→Bool}:∀ {l:List α} {i:Nat},fnd p i l=none↔∀ x∈l,p x=false
 | [],i=>by simp [fnd]
 | a :: l,i=>by
   simp only [fnd]; split
   · rename_i ha; simp [ha]
   · rename_i ha; rw [zm2]; simp only [za1,forall_eq_or_imp]; exact ⟨fun h=>⟨by simpa using ha,h⟩,fun h=>h.2⟩
theorem fnd_of {p:α→Bool} {l:List α} {j:Nat} {x:α} (hx:l[j]?=some x) (hp:p x=true) (hk:∀ k y,k < j→l[k]?=some y→p y=false):fnd p 0 l=some (j,x):=by
 cases h:fnd p 0 l with
 | none=>have:=zm2.1 h x (zbP hx); rw [hp] at this; cases this
 | some q =>
   obtain ⟨i,y⟩:=q; obtain ⟨h1,h2,h3⟩:=fnd_at h; rcases zvC i j with c | c | c
   · have:=hk i y c h1; rw [h2] at this; cases this
   · subst c; rw [hx] at h1; injection h1 with h1; rw [h1]
   · have:=h3 j x c hx; rw [hp] at this; cases this
theorem zfK (l:List α) (p:α→Bool) (K:Int→Option β) (R:Option (Nat×α)→β) (h0:K l.length=some (R none))
  (hyes:∀ (i:Nat) (hi:i < l.length),p l[i]=true→K i=some (R (some (i,l[i])))) (hno:∀ (i:Nat) (hi:i < l.length) (y:β),p l[i]=false→K ((i:Int)+1)=some y→K i=some y):K 0=some (R (fnd p 0 l)):=by
 have H:=zmR l.length (fun j hj=>p l[j]=false) K (fun y=>∃ i x,fnd p 0 l=some (i,x)∧y=R (some (i,x))) (R none) (fun _=>h0)
  (fun i hi hpre hn=>⟨_,⟨i,l[i],fnd_of (zaC hi) (by simpa using hn) (fun k y hk hy=>by
   obtain ⟨hk',rfl⟩:=zbs.1 hy
   exact hpre k hk),rfl⟩,hyes i hi (by simpa using hn)⟩) hno
 rcases H with ⟨h1,h2⟩ | ⟨_,y,⟨i,x,h2,rfl⟩,h3⟩
 · rw [h2,zm2.2 ((zoF (G:=fun x=>p x=false)).1 h1)]
 · rw [h3,h2]
def mkN (n:Nat) (f:Nat→α) (d:α) (i:Nat):List α:=(List.range n).map fun j=>if j < i then f j else d
theorem zsd (n:Nat) (f:Nat→α) (d:α) (i:Nat):(mkN n f d i).length=n:=by simp [mkN]
theorem mkN_get {n:Nat} {f:Nat→α} {d:α} {i:Nat} (h:i < n):(mkN n f d i)[i]?=some d:=by simp [mkN,h]
theorem mkN_zero (n:Nat) (f:Nat→α) (d:α):mkN n f d 0=List.replicate n d:=by unfold mkN; simp only [Nat.not_lt_zero,if_false,List.map_const',aLiAs16]
theorem zul {n:Nat} {f:Nat→α} {d:α} {i:Nat} {v:α} (hv:v=f i):(mkN n f d i).set i v=mkN n f d (i+1):=by
 subst hv; apply zjF; intro j; by_cases hj:j < n
 · by_cases e:i=j
   · subst e; rw [List.getElem?_set_self (by rw [zsd]; exact hj)]; simp [mkN,hj]
   · rw [List.getElem?_set_ne e]; simp only [mkN,zcR,zmD hj,zc1]; congr 1; by_cases h:j < i
     · rw [if_pos h,iPQ]
     · rw [if_neg h,iNQ]
 · rw [zox (by rw [zoW,zsd]; omega),zox (by rw [zsd]; omega)]
theorem mkN_same {n:Nat} {f:Nat→α} {d:α} {i:Nat} (h:f i=d):mkN n f d i=mkN n f d (i+1):=by
 unfold mkN; apply ziS; intro j _; by_cases c:j < i
 · rw [if_pos c,iPQ]
 · by_cases e:j=i
   · subst e; rw [if_neg c,iPQ,h]
   · rw [if_neg c,iNQ]
theorem mkN_all (n:Nat) (f:Nat→α) (d:α):mkN n f d n=(List.range n).map f:=by unfold mkN; apply ziS; intro j hj; rw [if_pos (zhC.1 hj)]
theorem zj1 {γ:Type} (f:α→γ) (l:List α) (i:Nat) (a:α):(List.map f l).set i (f a)=List.map f (l.set i a):=List.map_set.symm
theorem zel {γ:Type} (f:α→γ) (l:List α) (a:α):List.map f l++[f a]=List.map f (l++[a]):=by simp
theorem map_rep {γ:Type} (f:α→γ) (n:Nat) (a:α):List.replicate n (f a)=List.map f (List.replicate n a):=by simp
theorem take_len (l:List α):List.take l.length l=l:=zmC
instance (p:GPart):Decidable (OkPart p):=by unfold OkPart; infer_instance
theorem zo8 (p:GPart):cw zlp [.agg (zaP p)] []=some (zam (dec (OkPart p))):=by
 refine zv0 p ?_; simp only [zgB,decide_eq_true_eq,beq_iff_eq]
 repeat' split
 all_goals first
  | (rw [zbG (by unfold OkPart; omega)]; rfl)
  | (rw [show (p.Key == 0)=dec (OkPart p) from zmV (by simp only [beq_iff_eq]; unfold OkPart; omega)]; rfl)
  | (rw [show decide (p.Key < p.Options)=dec (OkPart p) from zmV (by simp only [decide_eq_true_eq]; unfold OkPart; omega)]; rfl)
theorem zvm (p:GPart) (l:List GPart):sumMax (p :: l)=p.Max+sumMax l:=by simp [sumMax]
theorem zt3 {l:List GPart} (h:∀ p∈l,OkPart p):0≤sumMax l∧sumMax l≤40*l.length:=by
 induction l with
 | nil=>simp [sumMax]
 | cons p l ih=>have h1:=ih (fun q hq=>h q (by simp [hq])); have h2:=(h p (by simp)).1; rw [zvm,zf5]; omega
theorem zwS (l:List GPart) (h:∀ p∈l,OkPart p) (hl:l.length≤24):cw zl9 [.sl 6 (List.map zaP l)] []=some (zbf (sumMax l)):=by
 refine zw4 l ?_; have hb:=zt3 h; refine zdJ l (fun i r=>∀ s:Int,0≤s→0≤sumMax r→s+sumMax r=sumMax l→zhw l s i=some (zbf (sumMax l))) ?_ ?_ 0 (by omega) (by omega) (by omega)
 · intro s _ _ hs; refine zob l _ _ ?_; simp (disch:=omega) [zaT]; rw [← hs]; simp [sumMax]; rfl
 · intro i hi r hr ih s h0 h1 hs; refine zob l _ _ ?_; have hm:=(h l[i] (zbg hi)).1; rw [zvm] at hs h1; have hr0:0≤sumMax r:=(zt3 (l:=r) (fun q hq=>h q (by rw [← hr] at hq; exact zkf hq))).1; simp (disch:=omega) [zaF,zan,w64_id]; exact ih _ (by omega) hr0 (by omega)
theorem zuE (p:zaE):cw zkQ [.agg (zaL p)] []=some (zam (dec (ziM p))):=by
 refine zuI p ?_; by_cases hh:((0≤p.Code∧p.Code≤31)∧(0≤p.Variant∧p.Variant < 4)∧(1≤p.Parts.length∧p.Parts.length≤24))
 · simp (disch:=omega) only [zap,zaT]
   have hg:=fun z h0=>zmR p.Parts.length (fun j hj=>OkPart p.Parts[j]) (fun i=>zgo p i) (fun y=>y=zam false) z h0
    (fun i hi _ hn=>⟨_,rfl,zjb p _ (by simp (disch:=omega) [zaF,zan,zo8,zbG hn]; rfl)⟩)
    (fun i hi y hy hk=>zjb p _ (by simp (disch:=omega) [zaF,zan,w64_id,zo8,zbE hy,hk]))
   rcases hg (zam (dec (ziM p))) (fun h=>zjb p _ (by
    have h':=zoF.1 h; simp (disch:=omega) [zaT,zwS p.Parts h' (by omega)]; rw [show decide (sumMax p.Parts≤200)=dec (ziM p) from zmV (by simp only [decide_eq_true_eq]; unfold ziM; exact ⟨fun h=>⟨hh.1,hh.2.1,hh.2.2,h',h⟩,fun h=>h.2.2.2.2⟩)]
    rfl)) with ⟨h1,h2⟩ | ⟨⟨j,hj,h1⟩,y,rfl,h3⟩
   · exact h2
   · rw [zbG (fun h=>h1 (h.2.2.2.1 _ (zbg hj)))]; exact h3
 · rw [zbG (fun h=>hh ⟨h.1,h.2.1,h.2.2.1⟩)]; simp only [zgB,decide_eq_true_eq,zap]
   repeat' split
   all_goals first
    | rfl
    | omega
theorem zAE {ks:List Int}:OkKeys 0 ks↔ks=[]:=by
 constructor
 · intro h
   cases ks with
   | nil=>rfl
   | cons k ks=>have:=h.1 k (by simp); omega
 · rintro rfl; exact ⟨by simp,fun j hj=>by simp at hj⟩
theorem okKeys_iff {o:Int} {ks:List Int}:(∀ j (hj:j < ks.length),(0≤ks[j]∧ks[j] < o)∧∀ h:0 < j,(ks[j - 1]'(by omega)) < ks[j])↔OkKeys o ks:=by unfold OkKeys; rw [← zqU,← zoF]; exact ⟨fun h=>⟨fun j hj=>(h j hj).1,fun j hj=>(h j hj).2⟩,fun h j hj=>⟨h.1 j hj,h.2 j hj⟩⟩
theorem zjJ (p:GPart) (ks:List Int) (hp:OkPart p) (hl:ks.length≤1000000):cw zjT [.agg (zaP p),.sl 1 (List.map zak ks)] []=some (zam (dec (OkKeys p.Options ks))):=by
 refine ztI p ks ?_; by_cases hk:p.Kind=1
 · have ho:p.Options=0:=by unfold OkPart at hp; omega
   simp only [hk,beq_self_eq_true,zaI,zap]; rw [show ((ks.length:Int) == 0)=dec (OkKeys p.Options ks) from zmV (by rw [ho,zAE]; simp)]; rfl
 · simp only [show (p.Kind == 1)=false by simpa using hk,zaw]; rw [← zkl okKeys_iff]; refine zln ks.length _ (fun i=>zeF p ks i) (fun b=>zam b) ?_ ?_ ?_
   · exact ziv p ks _ (by simp (disch:=omega) only [zap,zaT]; rfl)
   · intro i hi hg; refine ziv p ks _ ?_; by_cases h1:0≤ks[i]∧ks[i] < p.Options
     · have h0:0 < i:=by
        apply zvE
        rintro rfl
        exact hg ⟨h1,fun h=>absurd h (by omega)⟩
       have h2:¬ (ks[i - 1] < ks[i]):=fun h=>hg ⟨h1,fun _=>h⟩
       simp (disch:=omega) [zaF,zaT,zan,w64_id,zfq h0]; rfl
     · by_cases h2:ks[i] < 0
       · simp (disch:=omega) [zaF,zan]; rfl
       · simp (disch:=omega) [zaF,zaT,zan]; rfl
   · intro i hi y hg hk'; refine ziv p ks _ ?_; by_cases h0:0 < i
     · have h2:=hg.2 h0; have h1:=hg.1; simp (disch:=omega) [zaF,zaT,zan,w64_id,zfq h0,hk']
     · have h1:=hg.1; simp (disch:=omega) [zaF,zaT,zan,w64_id,hk']
theorem zpN (k:Int):cw zmf [I k] []=some (zam (dec (0≤k∧k≤2))):=by
 refine zxb k ?_; simp only [zgB,beq_iff_eq]
 repeat' split
 all_goals first
  | (rw [zbE (by omega)]; rfl)
  | (rw [zbG (by omega)]; rfl)
theorem zzS {p:zaE} {s:zbr} (h1:s.Keys.length=p.Parts.length) (h2:s.Withdrawn.length=p.Parts.length) (hp:ziM p):(∀ j (hj:j < p.Parts.length),OkKeys p.Parts[j].Options (s.Keys[j]'(by omega))∧(0≤s.Withdrawn[j]'(by omega)∧s.Withdrawn[j]'(by omega)≤2))↔zfI p s:=by
 unfold zfI; constructor
 · intro h; refine ⟨hp,h1,h2,fun j x ks k a b c=>?_⟩; obtain ⟨hj,rfl⟩:=zbs.1 a; obtain ⟨_,rfl⟩:=zbs.1 b; obtain ⟨_,rfl⟩:=zbs.1 c; exact h j hj
 · intro h j hj; exact h.2.2.2 j _ _ _ (zaC hj) (zaC (by omega)) (zaC (by omega))
theorem zhD (p:zaE) (s:zbr) (hs:Short s):cw zhH [.agg (zaL p),.agg (zbX s)] []=some (zam (dec (zfI p s))):=by
 refine zxW p s ?_; simp only [zuE,zai,zap]; by_cases hp:ziM p
 · by_cases h1:s.Keys.length=p.Parts.length
   · by_cases h2:s.Withdrawn.length=p.Parts.length
     · simp only [zbE hp,h1,h2,zbO,zaw,bne_self_eq_false]; have hpl:=hp.2.2.1; rw [← zkl (zzS h1 h2 hp)]; refine zln p.Parts.length _ (fun i=>zig p s i) (fun b=>zam b) ?_ ?_ ?_
       · exact zlB p s _ (by simp (disch:=omega) only [zap,zaT]; rfl)
       · intro i hi hg; have hi1:i < s.Keys.length:=by omega
         have hi2:i < s.Withdrawn.length:=by omega
         refine zlB p s _ ?_; have hx:=hp.2.2.2.1 _ (zbg hi); by_cases h3:OkKeys p.Parts[i].Options s.Keys[i]
         · have h4:¬ (0≤s.Withdrawn[i]∧s.Withdrawn[i]≤2):=fun h=>hg ⟨h3,h⟩
           simp (disch:=omega) [zaF,zan,zjJ _ _ hx (hs _ (zbg hi1)),zbE h3,zpN,zbG h4]; rfl
         · simp (disch:=omega) [zaF,zan,zjJ _ _ hx (hs _ (zbg hi1)),zbG h3]; rfl
       · intro i hi y hg hk'; have hi1:i < s.Keys.length:=by omega
         have hi2:i < s.Withdrawn.length:=by omega
         refine zlB p s _ ?_; have hx:=hp.2.2.2.1 _ (zbg hi); simp (disch:=omega) [zaF,zan,w64_id,zjJ _ _ hx (hs _ (zbg hi1)),zbE hg.1,zpN,zbE hg.2,hk']
     · rw [zbG (p:=zfI p s) (fun h=>h2 h.2.2.1)]; simp only [zbE hp,h1,zbO,zaw,bne_self_eq_false,show ((s.Withdrawn.length:Int) != p.Parts.length)=true by simpa using (by omega:¬ ((s.Withdrawn.length:Int)=p.Parts.length)),zaI]; rfl
   · rw [zbG (p:=zfI p s) (fun h=>h1 h.2.1)]; simp only [zbE hp,zbO,zaw,show ((s.Keys.length:Int) != p.Parts.length)=true by simpa using (by omega:¬ ((s.Keys.length:Int)=p.Parts.length)),zaI]; rfl
 · rw [zbG hp,zbG (fun h=>hp h.1)]; rfl
theorem zej (n:Int):cw zh7 [I n] []=some (zam (dec (0≤n∧n≤31))):=by
 refine zv5 n ?_; simp only [zgB,decide_eq_true_eq]; split
 · rw [show decide (n≤31)=dec (0≤n∧n≤31) from zmV (by simp only [decide_eq_true_eq]; omega)]; rfl
 · rw [zbG (by omega)]; rfl
theorem zpO (n:Int):cw zb7 [I n] []=some (zam (!dec (0≤n∧n≤31))):=
 zqg n (by rw [zej,zai]; rfl)
theorem zxM (l:List Int) (hl:l.length≤1000000):cw zbJ [.sl 1 (List.map zak l),.fn zb7 []] []=some (zam (!dec (∀ n∈l,0≤n∧n≤31))):=by
 refine zmv l ?_
 have key:∃ r,cw zbY [.sl 1 (List.map zak l),.fn zb7 []] []=some (zbf r)∧(0≤r↔¬ ∀ n∈l,0≤n∧n≤31):=by
  have H:=zmR l.length (fun j hj=>0≤l[j]∧l[j]≤31) (fun i=>zdP l i) (fun y=>∃ r:Int,0≤r∧y=zbf r) (zbf (-1)) ?_ ?_ ?_
  · rcases H with ⟨h1,h2⟩ | ⟨⟨j,hj,h1⟩,y,⟨r,h2,rfl⟩,h3⟩
    · refine ⟨-1,ziE l h2,?_⟩; have:=(zoF (G:=fun n=>0≤n∧n≤31)).1 h1; exact ⟨fun h=>by omega,fun h=>absurd this h⟩
    · exact ⟨r,ziE l h3,fun _ h=>h1 (h _ (zbg hj)),fun _=>h2⟩
  · intro h; exact zfh l _ (by simp (disch:=omega) [zaT] <;> rfl)
  · intro i hi _ hg; refine ⟨_,⟨(i:Int),by omega,rfl⟩,zfh l _ ?_⟩; simp (disch:=omega) [zaF,zan,zpO,zbG hg]; rfl
  · intro i hi y hg hk; refine zfh l _ ?_; simp (disch:=omega) [zaF,zan,w64_id,zpO,zbE hg,hk]
 obtain ⟨r,h1,h2⟩:=key; rw [h1,za0]
 rw [show decide (0≤r)=!dec (∀ n∈l,0≤n∧n≤31) by
  by_cases hc:∀ n∈l,0≤n∧n≤31
  · rw [zbE hc]; simp only [zbO,decide_eq_false_iff_not]; exact fun h=>(h2.1 h) hc
  · rw [zbG hc]; simp only [zcx,decide_eq_true_eq]; exact h2.2 hc]
 rfl
theorem ziA (m:zaU) (hl:m.Papers.length≤1000000):cw zh8 [.agg (zaR m)] []=some (zam (dec (zhY m))):=by
 refine zrX m ?_; simp only [zgB,decide_eq_true_eq]
 repeat' split
 all_goals first
  | (rw [zbG (by unfold zhY; omega)]; rfl)
  | (rw [zxM _ hl,zai,Bool.not_not,zkl (p:=∀ n∈m.Papers,0≤n∧n≤31) (q:=zhY m) ⟨fun h=>⟨by omega,by omega,by omega,by omega,h⟩,fun h=>h.2.2.2.2⟩]; rfl)
theorem zjf (l:List Int) (hl:l.length≤1000000):cw zmc [.sl 1 (List.map zak l)] []=some (zam (dec (AscBy id l))):=by
 refine zw5 l ?_; by_cases h1:1≤l.length
 · have h:=all_from 1 l.length h1 (fun j h1 hj=>l[j - 1] < l[j]) (fun i=>zhx l i) (fun b=>zam b) ?_ ?_ ?_
   · rw [show ((1:Nat):Int)=1 from rfl] at h; rw [h]; congr 2; rw [← zqU]; exact zkl ⟨fun h i hi h0=>h i h0 hi,fun h j h1 hj=>h j hj h1⟩
   · exact zhA _ _ (by simp (disch:=omega) [zaT] <;> rfl)
   · intro i h0 hi hg; refine zhA _ _ ?_; simp (disch:=omega) [zaF,zan,w64_id,zfq h0]; rfl
   · intro i h0 hi y hg hk; refine zhA _ _ ?_; simp (disch:=omega) [zaF,zaT,zan,w64_id,zfq h0,hk]
 · rw [zbE (p:=AscBy id l) (fun j hj=>by omega)]; exact zhA _ _ (by simp (disch:=omega) [zaT] <;> rfl)
theorem zy3 {l:List zaU} (hl:l.length≤16):(∀ j (hj:j < l.length),(zhY l[j]∧AscBy id l[j].Papers)∧∀ h:0 < j,(l[j - 1]'(by omega)).ID < l[j].ID)↔znq l:=by unfold znq; rw [← zqU,← zoF]; exact ⟨fun h=>⟨hl,fun j hj=>(h j hj).1,fun j hj=>(h j hj).2⟩,fun h j hj=>⟨h.2.1 j hj,h.2.2 j hj⟩⟩
theorem zxO (l:List zaU) (hs:∀ m∈l,m.Papers.length≤1000000):∃ e,cw zmY [.sl 5 (List.map zaR l)] []=some (zbf e)∧(e=0↔znq l):=by
 by_cases hl:l.length≤16
 · have H:=all_err l.length (fun j hj=>(zhY l[j]∧AscBy id l[j].Papers)∧∀ h:0 < j,(l[j - 1]'(by omega)).ID < l[j].ID) (fun i=>zgf l i) (fun e=>zbf e) ?_ ?_ ?_
   · obtain ⟨e,h1,h2⟩:=H; exact ⟨e,zq4 l (by simp (disch:=omega) [zaT,h1]),h2.trans (zy3 hl)⟩
   · exact zgj _ _ (by simp (disch:=omega) [zaT] <;> rfl)
   · intro i hi hg; have hp:=hs _ (zbg hi); by_cases h1:zhY l[i]
     · by_cases h2:AscBy id l[i].Papers
       · have h0:0 < i:=by
          apply zvE
          rintro rfl
          exact hg ⟨⟨h1,h2⟩,fun h=>absurd h (by omega)⟩
         have h3:¬ (l[i - 1].ID < l[i].ID):=fun h=>hg ⟨⟨h1,h2⟩,fun _=>h⟩
         refine ⟨43,by omega,zgj _ _ ?_⟩; simp (disch:=omega) [zaF,zan,w64_id,zfq h0,ziA _ hp,zbE h1,zjf _ hp,zbE h2]; rfl
       · refine ⟨43,by omega,zgj _ _ ?_⟩; simp (disch:=omega) [zaF,zan,ziA _ hp,zbE h1,zjf _ hp,zbG h2]; rfl
     · refine ⟨2,by omega,zgj _ _ ?_⟩; simp (disch:=omega) [zaF,zan,ziA _ hp,zbG h1]; rfl
   · intro i hi y hg hk; have hp:=hs _ (zbg hi); obtain ⟨⟨h1,h2⟩,h3⟩:=hg; refine zgj _ _ ?_; by_cases h0:0 < i
     · have h4:=h3 h0; simp (disch:=omega) [zaF,zaT,zan,w64_id,zfq h0,ziA _ hp,zbE h1,zjf _ hp,zbE h2,hk]
     · simp (disch:=omega) [zaF,zaT,zan,w64_id,ziA _ hp,zbE h1,zjf _ hp,zbE h2,hk]
 · refine ⟨3,zq4 l ?_,by omega,fun h=>absurd h.1 hl⟩; simp (disch:=omega) [zaF]; rfl
theorem zy4 {l:List zaN} (hl:l.length≤60):(∀ j (hj:j < l.length),zoO l[j]∧∀ h:0 < j,(l[j - 1]'(by omega)).Number < l[j].Number)↔znr l:=by unfold znr; rw [← zqU,← zoF]; exact ⟨fun h=>⟨hl,fun j hj=>(h j hj).1,fun j hj=>(h j hj).2⟩,fun h j hj=>⟨h.2.1 j hj,h.2.2 j hj⟩⟩
theorem zqY (l:List zaN):∃ e,cw zhF [.sl 7 (List.map zaS l)] []=some (zbf e)∧(e=0↔znr l):=by
 by_cases hl:l.length≤60
 · have H:=all_err l.length (fun j hj=>zoO l[j]∧∀ h:0 < j,(l[j - 1]'(by omega)).Number < l[j].Number) (fun i=>zdR l i) (fun e=>zbf e) ?_ ?_ ?_
   · obtain ⟨e,h1,h2⟩:=H; exact ⟨e,zlM l (by simp (disch:=omega) [zaT,h1]),h2.trans (zy4 hl)⟩
   · exact zdc _ _ (by simp (disch:=omega) [zaT] <;> rfl)
   · intro i hi hg; by_cases h1:zoO l[i]
     · have h0:0 < i:=by
        apply zvE
        rintro rfl
        exact hg ⟨h1,fun h=>absurd h (by omega)⟩
       have h3:¬ (l[i - 1].Number < l[i].Number):=fun h=>hg ⟨h1,fun _=>h⟩
       refine ⟨43,by omega,zdc _ _ ?_⟩; obtain ⟨a1,a2,a3,a4,a5,a6⟩:=h1; simp (disch:=omega) [zaF,zaT,zan,w64_id,zfq h0,zej,zbE a1]; rw [← a5]; simp; rfl
     · by_cases a1:0≤l[i].Paper∧l[i].Paper≤31
       · by_cases a2:(0≤l[i].Candidate∧l[i].Candidate≤9999)∧(0≤l[i].Centre∧l[i].Centre≤99)∧(0≤l[i].Variant∧l[i].Variant≤31)
         · refine ⟨1,by omega,zdc _ _ ?_⟩; simp (disch:=omega) [zaF,zaT,zan,w64_id,zej,zbE a1]; by_cases a3:l[i].Number=l[i].Paper*10000+l[i].Candidate
           · have a4:12 < (l[i].Pages.length:Int):=by apply Int.not_le.1; intro h; exact h1 ⟨a1,a2.1,a2.2.1,a2.2.2,a3,by omega⟩
             simp (disch:=omega) [a3,zaF]; rfl
           · simp [show (l[i].Number != l[i].Paper*10000+l[i].Candidate)=true by simpa using a3]; rfl
         · refine ⟨2,by omega,zdc _ _ ?_⟩; simp (disch:=omega) [zaF,zan,zej,zbE a1]; simp only [zgB,decide_eq_true_eq]
           repeat' split
           all_goals first
            | rfl
            | omega
       · refine ⟨2,by omega,zdc _ _ ?_⟩; simp (disch:=omega) [zaF,zan,zej,zbG a1]; rfl
   · intro i hi y hg hk; obtain ⟨h1,h3⟩:=hg; refine zdc _ _ ?_; obtain ⟨a1,a2,a3,a4,a5,a6⟩:=h1; by_cases h0:0 < i
     · have h4:=h3 h0; simp (disch:=omega) [zaF,zaT,zan,w64_id,zfq h0,zej,zbE a1,← a5,hk]
     · simp (disch:=omega) [zaF,zaT,zan,w64_id,zej,zbE a1,← a5,hk]
 · refine ⟨3,zlM l ?_,by omega,fun h=>absurd h.1 hl⟩; simp (disch:=omega) [zaF]; rfl
theorem c_isScore (n:Int):cw zhv [I n] []=some (zam (dec (0≤n∧n≤200))):=by
 refine zuO n ?_; simp only [zgB,decide_eq_true_eq]; split
 · rw [show decide (n≤200)=dec (0≤n∧n≤200) from zmV (by simp only [decide_eq_true_eq]; omega)]; rfl
 · rw [zbG (by omega)]; rfl
theorem zl4 (r:za2) (h:OkMon r):cw zgM [.agg (zbD r)] []=some (zbf 0):=by obtain ⟨h1,h2,h3,h4⟩:=h; refine zw9 r ?_; simp (disch:=omega) [zaT,c_isScore,zbE h1,zbE h2]; rfl
theorem zwO (l:List Int) (n:Int) (hl:l.length≤1000000):cw zew [.sl 1 (List.map zak l),I n] []=some (zam (dec (n∈l))):=by
 refine zoi l n ?_; have key:=zfK l (fun x=>n == x) (fun i=>zeH l n i) (fun o=>zbf (match o with | some (i,_)=>(i:Int) | none=>-1)) ?_ ?_ ?_
 · rw [zql l n key,za0]
   cases hf:fnd (fun x=>n == x) 0 l with
   | none=>rw [zbG (fun h=>by have:=zm2.1 hf n h; simp at this)]; rfl
   | some q =>
     obtain ⟨i,x⟩:=q; obtain ⟨h1,h2,_⟩:=fnd_at hf; have:n=x:=by simpa using h2
     subst this; rw [zbE (zbP h1)]; show some (B (decide (0≤(i:Int))),[])=_; rw [show decide (0≤(i:Int))=true by simp]; rfl
 · exact zgl _ _ _ (by simp (disch:=omega) [zaT] <;> rfl)
 · intro i hi h; refine zgl _ _ _ ?_; simp (disch:=omega) [zaF,zan,h]; rfl
 · intro i hi y h hk; refine zgl _ _ _ ?_; simp (disch:=omega) [zaF,zan,w64_id,h,hk]
def accB (x:GPart) (ks:List Int) (v:Int):Bool:=if ks=[] then v == x.Key else dec (v∈ks)
theorem zto (x:GPart) (ks:List Int) (v:Int) (hl:ks.length≤1000000):cw zlu [.agg (zaP x),.sl 1 (List.map zak ks),I v] []=some (zam (accB x ks v)):=by
 refine zwa x ks v ?_; unfold accB; by_cases h:ks=[]
 · rw [if_pos h,h]; rfl
 · rw [if_neg h]; have:((ks.length:Int) == 0)=false:=by simpa using h
   simp only [zap,this,zaw,zwO _ _ hl,zai]; rfl
def zjK (p:zaE) (s:zbr) (a:List Int) (j:Nat):Int:=
 match p.Parts[j]?,s.Keys[j]?,a[j]? with
 | some x,some ks,some v=>if x.Kind=1 then -2 else if accB x ks v=true then x.Max else if v=-1 then -1 else 0
 | _,_,_=>0
def zq0 (p:zaE) (s:zbr) (a:List Int):List Int:=(List.range p.Parts.length).map (zjK p s a)
theorem kind2 {x:GPart} (h:OkPart x):x.Kind=1∨x.Kind=2:=by unfold OkPart at h; omega
theorem zwT (p:zaE) (s:zbr) (a:List Int) (hs:Short s):∃ r:List Int×Int,cw zjj [.agg (zaL p),.agg (zbX s),.sl 1 (List.map zak a)] []=some (zeJ r)∧(r.2=0↔zfI p s∧OkAns p a)∧(r.2=0→r.1=zq0 p s a):=by
 by_cases hp:zfI p s
 case neg=>refine ⟨([],1),zl6 p s a ?_,by simp [hp],by simp⟩; simp only [zhD p s hs,zai,zbG hp]; rfl
 obtain ⟨hP,hk,hw,hall⟩:=id hp; have hpl:=hP.2.2.1; by_cases ha:a.length=p.Parts.length
 case neg=>refine ⟨([],22),zl6 p s a ?_,by simp [OkAns,ha],by simp⟩; simp only [zhD p s hs,zai,zbE hp,zbO,zaw,zap,show ((a.length:Int) != p.Parts.length)=true by simpa using (by omega:¬ ((a.length:Int)=p.Parts.length)),zaI]; rfl
 have start:∀ y,zdr p s a 0=some y→cw zjj [.agg (zaL p),.agg (zbX s),.sl 1 (List.map zak a)] []=some y:=by intro y hy; refine zl6 p s a ?_; simp only [zhD p s hs,zai,zbE hp,zbO,zaw,zap,ha,bne_self_eq_false,hy]
 have second:zds p s a (List.map zak (List.replicate p.Parts.length 0)) 0=some (zeJ (zq0 p s a,0)):=by
  rw [← mkN_zero p.Parts.length (zjK p s a) 0]; have:=zdJ p.Parts (fun i r=>zds p s a (List.map zak (mkN p.Parts.length (zjK p s a) 0 i.toNat)) i=some (zeJ (zq0 p s a,0))) ?_ ?_
  · exact this
  · refine zoc _ _ _ _ _ ?_; simp (disch:=omega) only [zap,zaT,za4,mkN_all,zlE,aLiAs16,zan,zmC,zq0.eq_1]; rw [show List.take p.Parts.length (List.map zak (List.map (zjK p s a) (List.range p.Parts.length)))=List.map zak (List.map (zjK p s a) (List.range p.Parts.length)) from zcN (by simp)]; rfl
  · intro i hi r hr ih; have hi1:i < s.Keys.length:=by omega
    have hi2:i < a.length:=by omega
    have hkl:=hs _ (zbg hi1); refine zoc _ _ _ _ _ ?_
    have hc:zjK p s a i=if p.Parts[i].Kind=1 then -2 else if accB p.Parts[i] s.Keys[i] a[i]=true then p.Parts[i].Max else if a[i]=-1 then -1 else 0:=by simp [zjK,hi,hi1,hi2]
    have e1:((i:Int)+1).toNat=i+1:=by omega
    rw [e1] at ih; have hgi:(mkN p.Parts.length (zjK p s a) 0 i)[i]?=some 0:=mkN_get hi; rcases kind2 (hP.2.2.2.1 _ (zbg hi)) with h1 | h1
    · rw [if_pos h1] at hc; simp (disch:=omega) [zaF,zan,h1,w64_id,hgi,zj1,zul hc.symm,-List.map_set,ih]
    · rw [iNQ] at hc
      cases hb:accB p.Parts[i] s.Keys[i] a[i] with
      | true=>rw [if_pos hb] at hc; simp (disch:=omega) [zaF,zan,h1,w64_id,hgi,zj1,zul hc.symm,-List.map_set,ih,zto _ _ _ hkl,hb]
      | false =>
        rw [if_neg (by rw [hb]; simp)] at hc; by_cases h2:a[i]=-1
        · rw [if_pos h2] at hc; simp (disch:=omega) [zaF,zan,h1,w64_id,hgi,zj1,zul hc.symm,-List.map_set,ih,zto _ _ _ hkl,hb,← h2]; simp (disch:=omega) [h2,zj1,zul hc.symm,-List.map_set,ih]
        · rw [if_neg h2] at hc; simp (disch:=omega) [zaF,zan,h1,w64_id,mkN_same hc,ih,zto _ _ _ hkl,hb,show (a[i] == -1)=false by simpa using h2]
 have hfst:∀ j (hj:j < p.Parts.length),(p.Parts[j].Kind≠1→-2≤a[j]'(by omega)∧a[j]'(by omega) < p.Parts[j].Options)↔(p.Parts[j].Kind=2→-2≤a[j]'(by omega)∧a[j]'(by omega) < p.Parts[j].Options):=by intro j hj; have:=kind2 (hP.2.2.2.1 _ (zbg hj)); omega
 have H:=zmR p.Parts.length (fun j hj=>p.Parts[j].Kind≠1→-2≤a[j]'(by omega)∧a[j]'(by omega) < p.Parts[j].Options) (fun i=>zdr p s a i) (fun y=>y=zeJ ([],2)) (zeJ (zq0 p s a,0)) ?_ ?_ ?_
 · rcases H with ⟨h1,h2⟩ | ⟨⟨j,hj,h1⟩,y,rfl,h3⟩
   · refine ⟨_,start _ h2,⟨fun _=>⟨hp,ha,fun j x v q1 q2 q3=>?_⟩,fun _=>rfl⟩,fun _=>rfl⟩; obtain ⟨hj,rfl⟩:=zbs.1 q1; obtain ⟨_,rfl⟩:=zbs.1 q2; exact h1 j hj q3
   · refine ⟨_,start _ h3,⟨fun h=>by simp at h,fun h=>?_⟩,fun h=>by simp at h⟩; exact absurd (fun q3=>h.2.2 j _ _ (zaC hj) (zaC (by omega)) q3) h1
 · intro _; refine zkX _ _ _ _ ?_; rw [← map_rep] at second; simp (disch:=omega) only [zap,zaT,zan,zbL,za4,second]
 · intro i hi _ hn; have hi2:i < a.length:=by omega
   refine ⟨_,rfl,zkX _ _ _ _ ?_⟩; rcases kind2 (hP.2.2.2.1 _ (zbg hi)) with h1 | h1
   · exact absurd (fun h=>absurd h1 h) hn
   · have h2:¬ (-2≤a[i]∧a[i] < p.Parts[i].Options):=fun h=>hn (fun _=>h)
     have hop:2≤p.Parts[i].Options:=by have:=(hP.2.2.2.1 _ (zbg hi)); unfold OkPart at this; omega
     have h3:a[i]≠-1:=fun h=>h2 (by omega)
     have h4:a[i]≠-2:=fun h=>h2 (by omega)
     by_cases h5:a[i] < 0
     · simp (disch:=omega) [zaF,zan,h1,show (a[i] != -1)=true by simpa using h3,show (a[i] != -2)=true by simpa using h4]; rfl
     · simp (disch:=omega) [zaF,zaT,zan,h1,show (a[i] != -1)=true by simpa using h3,show (a[i] != -2)=true by simpa using h4]; rfl
 · intro i hi y hg hk'; have hi2:i < a.length:=by omega
   refine zkX _ _ _ _ ?_; rcases kind2 (hP.2.2.2.1 _ (zbg hi)) with h1 | h1
   · simp (disch:=omega) [zaF,zan,h1,w64_id,hk']
   · have h2:=hg (by omega); by_cases h3:a[i]=-1
     · simp (disch:=omega) [zaF,zan,h1,w64_id,h3,hk']
     · by_cases h4:a[i]=-2
       · simp (disch:=omega) [zaF,zan,h1,w64_id,h4,hk']
       · simp (disch:=omega) [zaF,zaT,zan,h1,show (a[i] != -1)=true by simpa using h3,show (a[i] != -2)=true by simpa using h4,w64_id,hk']
def zAf:zaN:=⟨0,0,0,0,0,[],[]⟩
def ixR:Option (Nat×zaE)→Int×Bool
 | some (i,_)=>((i:Int),true)
 | none=>(0,false)
def scR:Option zaN→zaN×Bool
 | some x=>(x,true)
 | none=>(zAf,false)
theorem zrQ (s:zay) (n:Int) (hl:s.Scripts.length≤1000000):cw zfw [.agg (zau s),I n] []=some (zkw (scR (zgi s.Scripts n))):=by
 refine ztB s n ?_; have key:=zfK s.Scripts (fun x=>x.Number == n) (fun i=>zfU s n i) (fun o=>zkw (scR (o.map (·.2)))) ?_ ?_ ?_
 · exact key
 · exact zit _ _ _ (by simp (disch:=omega) [zaT] <;> rfl)
 · intro i hi h; refine zit _ _ _ ?_; simp (disch:=omega) [zaF,zan,h]; rfl
 · intro i hi y h hk; refine zit _ _ _ ?_; simp (disch:=omega) [zaF,zan,w64_id,h,hk]
theorem ztp (s:zay) (x:zaN) (hl:s.Papers.length≤1000000):cw zfO [.agg (zau s),.agg (zaS x)] []=some (ziH (ixR (zfd s.Papers x))):=by
 refine zuM s x ?_; have key:=zfK s.Papers (fun p=>p.Code == x.Paper && p.Variant == x.Variant) (fun i=>ze1 s x i) (fun o=>ziH (ixR o)) ?_ ?_ ?_
 · exact key
 · exact zjd _ _ _ (by simp (disch:=omega) [zaT] <;> rfl)
 · intro i hi h; refine zjd _ _ _ ?_; rw [zbK] at h; simp (disch:=omega) [zaF,zan,h.1,h.2]; rfl
 · intro i hi y h hk; refine zjd _ _ _ ?_
   cases h1:(s.Papers[i].Code == x.Paper) with
   | false=>simp (disch:=omega) [zaF,zan,w64_id,h1,hk]
   | true=>rw [h1,zhb] at h; simp (disch:=omega) [zaF,zan,w64_id,h1,h,hk]
theorem c_PaperOf (s:zay) (n:Int) (h1:s.Scripts.length≤1000000) (h2:s.Papers.length≤1000000):cw zkT [.agg (zau s),I n] []=some (ziH (ixR (zm6 s n))):=by
 refine zuL s n ?_; rw [zrQ s n h1,zhc]; unfold zm6
 cases zgi s.Scripts n with
 | none=>rfl
 | some x=>simp only [scR,zbO,zaw,ztp s x h2,zlG,zaY]; rfl
theorem zzC (p:zaE) (m:List Int) (hl:p.Parts.length≤1000000) (h:zqz p m):cw zib [.agg (zaL p),.sl 1 (List.map zak m)] []=some (zam true):=by
 obtain ⟨h1,h2⟩:=h; refine zr0 p m ?_; simp only [zap,h1,bne_self_eq_false,zaw]; refine zdJ p.Parts (fun i r=>zfn p m i=some (zam true)) ?_ ?_
 · exact zlc _ _ _ (by simp (disch:=omega) [zaT] <;> rfl)
 · intro i hi r hr ih; have hi2:i < m.length:=by omega
   have:=h2 i _ _ (zaC hi) (zaC hi2); refine zlc _ _ _ ?_; simp (disch:=omega) [zaF,zaT,zan,w64_id,ih]
theorem zgV {ps:List zaE} {x:zaN} {k:Nat} {p:zaE} (hk:zfd ps x=some (k,p)):ps[k]?=some p∧p.Code=x.Paper∧p.Variant=x.Variant:=by obtain ⟨h1,h2,_⟩:=fnd_at hk; simp only [zbK,beq_iff_eq] at h2; exact ⟨h1,h2⟩
theorem zt0 {l:List zaN} (h:AscBy zaN.Number l) {x:zaN} (hx:x∈l):zgi l x.Number=some x:=by
 obtain ⟨i,hi,rfl⟩:=zh3.1 hx; unfold zgi
 rw [fnd_of (j:=i) (x:=l[i]) (zaC hi) (by simp) (fun k y hk hy=>by
  obtain ⟨hk',rfl⟩:=zbs.1 hy; have:=asc_lt h k i hi hk; simp only [beq_eq_false_iff_ne]
  omega)]
 rfl
theorem paperOf_at {s:zay} {n:Int} {k:Nat} {p:zaE} (hk:zm6 s n=some (k,p)):s.Papers[k]?=some p:=by
 unfold zm6 at hk
 cases hx:zgi s.Scripts n with
 | none=>simp [hx] at hk
 | some x=>rw [hx] at hk; exact (zgV hk).1
section
variable {s:zay} (h:zdl s)
include h
theorem zdl.okPaper {k:Nat} {p:zaE} (hk:s.Papers[k]?=some p):ziM p:=by have hlt:=(zbs.1 hk).1; have:=h.len; exact (h.schemes k p _ hk (zaC (by omega))).1
theorem zyR:cw zhG [.agg (zau s)] []=some (zam true):=by
 have hp:=h.papers; have hl:=h.len; refine zq6 s ?_; simp (disch:=omega) only [zap,zaT,hl,bne_self_eq_false,zaw]; refine zdJ s.Papers (fun i r=>zeZ s i=some (zam true)) ?_ ?_
 · exact zkK _ _ (by simp (disch:=omega) [zaT] <;> rfl)
 · intro i hi r hr ih; have hi2:i < s.Schemes.length:=by omega
   have hv:=h.schemes i _ _ (zaC hi) (zaC hi2); refine zkK _ _ ?_; simp (disch:=omega) [zaF,zan,w64_id,zhD _ _ (h.short _ (zbg hi2)),zbE hv,ih]
theorem zxP:cw zhe [.agg (zau s)] []=some (zam true):=by
 have hp:=h.papers; have hl:=h.len; have hsl:=h.scripts.1; refine zqj s ?_; refine zdJ s.Scripts (fun i r=>zeE s i=some (zam true)) ?_ ?_
 · exact zkb _ _ (by simp (disch:=omega) [zaT] <;> rfl)
 · intro i hi r hr ih; obtain ⟨k,p,c,q1,q2,q3⟩:=h.script _ (zbg hi); have hpk:=(zgV q1).1; obtain ⟨w,hw,hw1,hw2⟩:=zwT p c s.Scripts[i].Answers (h.short _ (zbP q2)); have hw0:w.2=0:=hw1.2 ⟨h.schemes k p c hpk q2,q3⟩; refine zkb _ _ ?_; simp (disch:=omega) [zaF,zan,w64_id,ztp s _ (by omega),q1,ixR,hpk,q2,hw,hw0,ih]
theorem zzD:cw zic [.agg (zau s)] []=some (zam true):=by
 have hp:=h.papers; have hl:=h.seeds; have hsl:=h.scripts.1; refine zr1 s ?_; simp (disch:=omega) only [zap,zaT]; refine zdJ s.Seeds (fun i r=>zfo s i=some (zam true)) ?_ ?_
 · exact zld _ _ (by simp (disch:=omega) [zaT] <;> rfl)
 · intro i hi r hr ih; obtain ⟨k,p,q1,q2⟩:=h.seed _ (zbg hi); have hpk:=paperOf_at q1; have hpl:=(h.okPaper hpk).2.2.1
   have rest:zey s i s.Seeds[i]=some (zam true):=by refine zow _ _ _ ?_; simp (disch:=omega) [zan,w64_id,c_PaperOf s _ (by omega) (by omega),q1,ixR,hpk,zzC _ _ (by omega) q2,ih]
   refine zld _ _ ?_; by_cases h0:0 < i
   · have:=zqU.2 h.asc i hi h0; simp (disch:=omega) [zaF,zaT,zan,w64_id,zfq h0,rest]
   · simp (disch:=omega) [zaF,zaT,zan,rest]
theorem zpM:cw zgJ [.agg (zau s)] []=some (zbf 0):=by obtain ⟨e1,h1,h2⟩:=zxO s.Markers h.short2; obtain ⟨e2,h3,h4⟩:=zqY s.Scripts; have g1:=h2.2 h.markers; have g2:=h4.2 h.scripts; subst g1 g2; refine zw6 s ?_; simp only [h1,h3,za0,za0,zyR h,zxP h,zzD h,zl4 _ h.monitor,zai,zai,zai,za0,bne_self_eq_false,zbO,zaw]; rfl
end
def DOk (d:zae):Prop:=0≤d.At∧d.L.length≤600
abbrev mD (d:zae):Mem:=[(1000,⟨2,zag,[zaA d],true⟩)]
theorem tmod_lt {a n:Int} (hn:0 < n):-n < a.tmod n∧a.tmod n < n:=by have h1:=zvF a hn; refine ⟨?_,h1⟩; have h2:=zvF (-a) hn; rw [Int.neg_tmod] at h2; omega
theorem c_Light (t:List Int):cw zpg [.sl 1 (List.map zak t)] []=some (zam (decide ((t.length:Int)≤600))):=
 zzH t (by rw [zap]; rfl)
theorem c_Roll (t:List Int):cw zqn [.sl 1 (List.map zak t)] []=some (zqu ⟨t,0⟩):=zAp t rfl
theorem zc6 (d:zae) (n:Int) (hd:DOk d) (hn:n≤4611686018427387904):∃ (r:Int) (d':zae),cw zbb [.loc 1000 2 0 0,I n] (mD d)=some (zii (r,d'))∧0≤r∧(r < n∨r=0)∧DOk d':=by
 by_cases h1:(d.L.length:Int)≤d.At
 · refine ⟨0,d,zh6 d n ?_,by omega,.inr rfl,hd⟩; simp (disch:=omega) only [zap,zaF]; rfl
 by_cases h2:n < 1
 · refine ⟨0,d,zh6 d n ?_,by omega,.inr rfl,hd⟩; simp (disch:=omega) only [zap,zaF,zaT]; rfl
 obtain ⟨ha,hl⟩:=hd; have hlt:d.At.toNat < d.L.length:=by omega
 have hb:=tmod_lt (a:=d.L[d.At.toNat]) (n:=n) (by omega); have hd':DOk ⟨d.L,d.At+1⟩:=⟨by show 0≤d.At+1; omega,hl⟩
 by_cases h3:(d.L[d.At.toNat]).tmod n < 0
 · refine ⟨(d.L[d.At.toNat]).tmod n+n,⟨d.L,d.At+1⟩,zh6 d n ?_,by omega,.inl (by omega),hd'⟩; simp (disch:=omega) [zaF,zaT,zan,hlt,w64_id]; rfl
 · refine ⟨(d.L[d.At.toNat]).tmod n,⟨d.L,d.At+1⟩,zh6 d n ?_,by omega,.inl (by omega),hd'⟩; simp (disch:=omega) [zaF,zaT,zan,hlt,w64_id]; rfl
theorem c_Bool (d:zae) (n:Int) (hd:DOk d) (hn:n≤4611686018427387904):∃ (r:Bool) (d':zae),cw zek [.loc 1000 2 0 0,I n] (mD d)=some (zlx (r,d'))∧DOk d':=by obtain ⟨r,d',h,_,_,hd'⟩:=zc6 d n hd hn; exact ⟨_,d',zv1 d n (by simp only [h,zbi]; rfl),hd'⟩
theorem c_Pick (d:zae) (l:List Int) (hd:DOk d) (hl:l≠[]) (hl2:l.length≤1000):∃ (r:Int) (d':zae),cw zfb [.loc 1000 2 0 0,.sl 1 (List.map zak l)] (mD d)=some (zii (r,d'))∧r∈l∧DOk d':=by
 obtain ⟨r,d',h,h0,h1,hd'⟩:=zc6 d l.length hd (by omega); have hpos:0 < l.length:=List.length_pos_iff.2 hl; have hlt:r.toNat < l.length:=by omega
 refine ⟨l[r.toNat],d',zv3 d l ?_,zbg hlt,hd'⟩; simp (disch:=omega) only [zap,h,zbi,zan,zcO,zaC hlt,zaY]; rfl
def DPaper (p:zaE):Prop:=p.Parts.length≤3∧1≤p.Parts.length∧(∀ x∈p.Parts,OkPart x∧x.Max≤6)∧∃ y,p.Parts[0]?=some y∧y.Kind=1∧3≤y.Max
theorem DPaper.ok {p:zaE} (h:DPaper p) (h1:0≤p.Code∧p.Code≤31) (h2:0≤p.Variant∧p.Variant < 4):ziM p:=by obtain ⟨a,b,c,_⟩:=h; refine ⟨h1,h2,by omega,fun x hx=>(c x hx).1,?_⟩; have:=(zt3 (fun x hx=>(c x hx).1)).2; omega
theorem zui (d:zae) (a b:Int) (hd:DOk d):∃ (p:zaE) (d':zae),cw zdp [.loc 1000 2 0 0,I a,I b] (mD d)=some (zkU (p,d'))∧p.Code=a∧p.Variant=b∧DPaper p∧DOk d':=by
 obtain ⟨n0,d0,e0,a0,b0,hd0⟩:=zc6 d 4 hd (by omega); obtain ⟨n1,d1,e1,a1,b1,hd1⟩:=zc6 d0 3 hd0 (by omega); by_cases h1:0 < n1
 · obtain ⟨n2,d2,e2,a2,b2,hd2⟩:=zc6 d1 2 hd1 (by omega); obtain ⟨n3,d3,e3,a3,b3,hd3⟩:=zc6 d2 4 hd2 (by omega); obtain ⟨n4,d4,e4,a4,b4,hd4⟩:=zc6 d3 2 hd3 (by omega)
   have start:∀ y,zhg a b (n0,d0) (n2,d2) (n3,d3)=some y→cw zdp [.loc 1000 2 0 0,I a,I b] (mD d)=some y:=by intro y hy; refine zn8 d a b ?_; simp (disch:=omega) only [e0,e1,e2,e3,zbi,zaF,zan,zbL,hy]
   by_cases h4:0 < n4
   · obtain ⟨n5,d5,e5,a5,b5,hd5⟩:=zc6 d4 4 hd4 (by omega); refine ⟨⟨a,b,[⟨1,3+n0,0,0,0,0⟩,⟨2,1+n2,0,0,4,n3⟩,⟨1,2+n5,0,0,0,0⟩]⟩,d5,start _ (zlb _ _ _ _ _ ?_),rfl,rfl,⟨by simp,by simp,?_,_,rfl,rfl,by dsimp only; omega⟩,hd5⟩
     · simp (disch:=omega) only [e4,e5,zbi,zaF,zan,zbL,w64_id]; rfl
     · intro x hx; simp only [za1,zcZ,or_false] at hx; rcases hx with rfl | rfl | rfl <;> exact ⟨by unfold OkPart; dsimp only; omega,by dsimp only; omega⟩
   · refine ⟨⟨a,b,[⟨1,3+n0,0,0,0,0⟩,⟨2,1+n2,0,0,4,n3⟩]⟩,d4,start _ (zlb _ _ _ _ _ ?_),rfl,rfl,⟨by simp,by simp,?_,_,rfl,rfl,by dsimp only; omega⟩,hd4⟩
     · simp (disch:=omega) only [e4,zbi,zaT,zan,zbL,w64_id]; rfl
     · intro x hx; simp only [za1,zcZ,or_false] at hx; rcases hx with rfl | rfl <;> exact ⟨by unfold OkPart; dsimp only; omega,by dsimp only; omega⟩
 · obtain ⟨n4,d4,e4,a4,b4,hd4⟩:=zc6 d1 2 hd1 (by omega)
   have start:∀ y,zge a b (n0,d0) (n1,d1)=some y→cw zdp [.loc 1000 2 0 0,I a,I b] (mD d)=some y:=by intro y hy; refine zn8 d a b ?_; simp (disch:=omega) only [e0,e1,zbi,zaT,hy]
   by_cases h4:0 < n4
   · obtain ⟨n5,d5,e5,a5,b5,hd5⟩:=zc6 d4 4 hd4 (by omega); refine ⟨⟨a,b,[⟨1,3+n0,0,0,0,0⟩,⟨1,2+n5,0,0,0,0⟩]⟩,d5,start _ (zj8 _ _ _ _ ?_),rfl,rfl,⟨by simp,by simp,?_,_,rfl,rfl,by dsimp only; omega⟩,hd5⟩
     · simp (disch:=omega) only [e4,e5,zbi,zaF,zan,zbL,w64_id]; rfl
     · intro x hx; simp only [za1,zcZ,or_false] at hx; rcases hx with rfl | rfl <;> exact ⟨by unfold OkPart; dsimp only; omega,by dsimp only; omega⟩
   · refine ⟨⟨a,b,[⟨1,3+n0,0,0,0,0⟩]⟩,d4,start _ (zj8 _ _ _ _ ?_),rfl,rfl,⟨by simp,by simp,?_,_,rfl,rfl,by dsimp only; omega⟩,hd4⟩
     · simp (disch:=omega) only [e4,zbi,zaT,zan,zbL,w64_id]; rfl
     · intro x hx; simp only [za1,zcZ,or_false] at hx; subst hx; exact ⟨by unfold OkPart; dsimp only; omega,by dsimp only; omega⟩
theorem c_Scheme (d:zae) (p:zaE) (hd:DOk d) (hp:DPaper p) (hok:ziM p):∃ (c:zbr) (d':zae),cw zjM [.loc 1000 2 0 0,.agg (zaL p)] (mD d)=some (zj4 (c,d'))∧zfI p c∧Short c∧DOk d':=by
 have hl:=hp.1; have hl2:=hp.2.1; obtain ⟨b,d0,e0,hd0⟩:=c_Bool d 6 hd (by omega)
 have good:∀ W:List Int,W.length=p.Parts.length→(∀ k∈W,0≤k∧k≤2)→zfI p ⟨List.replicate p.Parts.length [],W⟩∧Short ⟨List.replicate p.Parts.length [],W⟩:=by
  intro W hW hk; refine ⟨⟨hok,by simp,hW,fun j x ks k q1 q2 q3=>⟨?_,hk k (zbP q3)⟩⟩,?_⟩
  · have:=zbP q2; rw [zry] at this; rw [this.2]; exact ⟨by simp,fun j hj=>by simp at hj⟩
  · intro ks hks; rw [zry] at hks; rw [hks.2]; simp
 cases b with
 | true =>
   obtain ⟨n1,d1,e1,a1,b1,hd1⟩:=zc6 d0 p.Parts.length hd0 (by omega); obtain ⟨n2,d2,e2,a2,b2,hd2⟩:=zc6 d1 2 hd1 (by omega); have hlt:n1.toNat < p.Parts.length:=by omega
   obtain ⟨g1,g2⟩:=good ((List.replicate p.Parts.length 0).set n1.toNat (1+n2)) (by simp) (by
    intro k hk; rcases aLiAs54 hk with h | h
    · rw [zry] at h; omega
    · omega)
   refine ⟨_,d2,znC d p ?_,g1,g2,hd2⟩; have hlt':n1.toNat < (List.replicate p.Parts.length (0:Int)).length:=by simpa using hlt
   simp (disch:=omega) only [zap,zan,zbL,e0,e1,e2,zci,zbi,zaI,za4,zlE,zb5,map_rep zak,zcO,zaC hlt',zaY]; refine zpG _ _ _ _ _ ?_; simp (disch:=omega) only [zap,zan,zbL,za4,zlE,zb5,zoW,zbR,w64_id]; rw [show List.take p.Parts.length (List.replicate p.Parts.length [AV.sl 1 []])=List.replicate p.Parts.length [AV.sl 1 []] from zcN (by simp),zcN (Nat.le_of_eq (by simp only [zoW,zlE]))]; rw [show List.replicate p.Parts.length [AV.sl 1 []]=List.map zcQ (List.replicate p.Parts.length []) by simp [zcQ],show List.replicate p.Parts.length [I 0]=List.map zak (List.replicate p.Parts.length 0) by simp [zak],show [I (1+n2)]=zak (1+n2) from rfl,zj1]; rfl
 | false =>
   obtain ⟨g1,g2⟩:=good (List.replicate p.Parts.length 0) (by simp) (by
    intro k hk
    rw [zry] at hk; omega)
   refine ⟨_,d0,znC d p ?_,g1,g2,hd0⟩; simp (disch:=omega) only [zap,zan,zbL,e0,zci,zaw,za4]; refine zos _ _ ?_; simp (disch:=omega) only [zap,zan,zbL,za4,zlE,zb5,zbR]; rw [show List.take p.Parts.length (List.replicate p.Parts.length [AV.sl 1 []])=List.replicate p.Parts.length [AV.sl 1 []] from zcN (by simp),zcN (Nat.le_of_eq (by simp only [zoW,zlE]))]; rw [show List.replicate p.Parts.length [AV.sl 1 []]=List.map zcQ (List.replicate p.Parts.length []) by simp [zcQ],show List.replicate p.Parts.length [I 0]=List.map zak (List.replicate p.Parts.length 0) by simp [zak]]; rfl
def zkd (ps:List zaE):Prop:=1≤ps.length∧ps.length≤3∧(∀ p∈ps,DPaper p∧(0≤p.Code∧p.Code≤1)∧(0≤p.Variant∧p.Variant≤1))∧∀ p∈ps,∀ q∈ps,p.Code=q.Code→p.Variant=q.Variant→p=q
def zpK (ps:List zaE) (cs:List zbr):Prop:=∀ (j:Nat) (p:zaE) (c:zbr),ps[j]?=some p→cs[j]?=some c→zfI p c∧Short c
theorem c_Papers (d:zae) (hd:DOk d):∃ (ps:List zaE) (cs:List zbr) (d':zae),cw zfv [.loc 1000 2 0 0] (mD d)=some (zfy ((ps,cs),d'))∧zkd ps∧cs.length=ps.length∧zpK ps cs∧DOk d':=by
 have loop:∀ (ps:List zaE),zkd ps→∀ (d:zae),DOk d→∃ (cs:List zbr) (d':zae),zcJ (List.map zaL ps) (List.map zbX []) d 0=some (zfy ((ps,cs),d'))∧cs.length=ps.length∧zpK ps cs∧DOk d':=by
  intro ps hps d hd; have hpl:=hps.2.1; refine zdJ ps (fun i r=>∀ (cs:List zbr) (d:zae),(cs.length:Int)=i→zpK ps cs→DOk d→∃ (cs':List zbr) (d':zae),zcJ (List.map zaL ps) (List.map zbX cs) d i=some (zfy ((ps,cs'),d'))∧cs'.length=ps.length∧zpK ps cs'∧DOk d') ?_ ?_ [] d (by simp) (by intro j p c _ h; simp at h) hd
  · intro cs d hcs hok hd; refine ⟨cs,d,zmo _ _ _ _ ?_,by omega,hok,hd⟩; simp (disch:=omega) only [zap,zaT,zb5,zbR,zbL]; rw [zcN (by simp),zcN (by simp)]; rfl
  · intro i hi r hr ih cs d hcs hok hd; obtain ⟨g1,g2,g3⟩:=hps.2.2.1 _ (zbg hi); obtain ⟨c,d1,e1,o1,o2,hd1⟩:=c_Scheme d ps[i] hd g1 (g1.ok (by omega) (by omega))
    obtain ⟨cs',d',e2,o3,o4,hd'⟩:=ih (cs++[c]) d1 (by simp; omega) (by
     intro j p c' hp hc; by_cases hj:j < cs.length
     · rw [zmE hj] at hc; exact hok j p c' hp hc
     · have hjl:=(zbs.1 hc).1; simp at hjl; have hji:j=cs.length:=by omega
       subst hji; simp at hc; subst hc; have:i=cs.length:=by omega
       subst this; rw [zaC hi] at hp; injection hp with hp; subst hp
       exact ⟨o1,o2⟩) hd1
    refine ⟨cs',d',zmo _ _ _ _ ?_,o3,o4,hd'⟩; simp (disch:=omega) only [zap,zaF,zan,zbL,zb5,za4,zfu,zaC hi,zaY,e1,zqb,w64_id,zel,e2]
 obtain ⟨p0,d0,e0,a0,b0,g0,hd0⟩:=zui d 0 0 hd; obtain ⟨b,d1,e1,hd1⟩:=c_Bool d0 2 hd0 (by omega)
 cases b with
 | true =>
   obtain ⟨p2,d2,e2,a2,b2,g2,hd2⟩:=zui d1 0 1 hd1; obtain ⟨b',d3,e3,hd3⟩:=c_Bool d2 2 hd2 (by omega)
   have start:∀ y,zgw (p0,d0) (p2,d2)=some y→cw zfv [.loc 1000 2 0 0] (mD d)=some y:=by intro y hy; refine znB d ?_; simp (disch:=omega) only [e0,e1,e2,zfE,zci,zaI,zan,zbL,hy]
   cases b' with
   | true =>
     obtain ⟨p4,d4,e4,a4,b4,g4,hd4⟩:=zui d3 1 0 hd3
     obtain ⟨cs,d',e5,o3,o4,hd'⟩:=loop [p0,p2,p4] (by
      refine ⟨by simp,by simp,?_,?_⟩ <;> simp only [za1,zcZ,or_false]
      · rintro p (rfl | rfl | rfl)
        · exact ⟨g0,by omega,by omega⟩
        · exact ⟨g2,by omega,by omega⟩
        · exact ⟨g4,by omega,by omega⟩
      · rintro p (rfl | rfl | rfl) q (rfl | rfl | rfl) h1 h2 <;> first | rfl | omega) d4 hd4
     refine ⟨[p0,p2,p4],cs,d',start _ (zkJ _ _ ?_),?_,o3,o4,hd'⟩
     · simp (disch:=omega) only [e3,e4,zfE,zci,zaI,zan,zbL]; exact e5
     · refine ⟨by simp,by simp,?_,?_⟩ <;> simp only [za1,zcZ,or_false]
       · rintro p (rfl | rfl | rfl)
         · exact ⟨g0,by omega,by omega⟩
         · exact ⟨g2,by omega,by omega⟩
         · exact ⟨g4,by omega,by omega⟩
       · rintro p (rfl | rfl | rfl) q (rfl | rfl | rfl) h1 h2 <;> first | rfl | omega
   | false =>
     have hP:zkd [p0,p2]:=by
      refine ⟨by simp,by simp,?_,?_⟩ <;> simp only [za1,zcZ,or_false]
      · rintro p (rfl | rfl)
        · exact ⟨g0,by omega,by omega⟩
        · exact ⟨g2,by omega,by omega⟩
      · rintro p (rfl | rfl) q (rfl | rfl) h1 h2 <;> first | rfl | omega
     obtain ⟨cs,d',e5,o3,o4,hd'⟩:=loop [p0,p2] hP d3 hd3; refine ⟨[p0,p2],cs,d',start _ (zkJ _ _ ?_),hP,o3,o4,hd'⟩; simp (disch:=omega) only [e3,zci,zaw]; exact e5
 | false =>
   obtain ⟨b',d3,e3,hd3⟩:=c_Bool d1 2 hd1 (by omega)
   have start:∀ y,zfT (p0,d0) (false,d1)=some y→cw zfv [.loc 1000 2 0 0] (mD d)=some y:=by intro y hy; refine znB d ?_; simp (disch:=omega) only [e0,e1,zfE,zci,zaw,zan,zbL,hy]
   cases b' with
   | true =>
     obtain ⟨p4,d4,e4,a4,b4,g4,hd4⟩:=zui d3 1 0 hd3
     have hP:zkd [p0,p4]:=by
      refine ⟨by simp,by simp,?_,?_⟩ <;> simp only [za1,zcZ,or_false]
      · rintro p (rfl | rfl)
        · exact ⟨g0,by omega,by omega⟩
        · exact ⟨g4,by omega,by omega⟩
      · rintro p (rfl | rfl) q (rfl | rfl) h1 h2 <;> first | rfl | omega
     obtain ⟨cs,d',e5,o3,o4,hd'⟩:=loop [p0,p4] hP d4 hd4; refine ⟨[p0,p4],cs,d',start _ (zju _ _ ?_),hP,o3,o4,hd'⟩; simp (disch:=omega) only [e3,e4,zfE,zci,zaI,zan,zbL]; exact e5
   | false =>
     have hP:zkd [p0]:=by
      refine ⟨by simp,by simp,?_,?_⟩ <;> simp only [za1,zcZ,or_false]
      · rintro p rfl
        exact ⟨g0,by omega,by omega⟩
      · rintro p rfl q rfl h1 h2; rfl
     obtain ⟨cs,d',e5,o3,o4,hd'⟩:=loop [p0] hP d3 hd3; refine ⟨[p0],cs,d',start _ (zju _ _ ?_),hP,o3,o4,hd'⟩; simp (disch:=omega) only [e3,zci,zaw]; exact e5
def DMarkers (l:List zaU):Prop:=2≤l.length∧l.length≤5∧znq l∧(∀ m∈l,m.Papers.length≤2)∧∀ m∈l,m.ID≤15
theorem c_Markers (d:zae) (hd:DOk d):∃ (l:List zaU) (d':zae),cw zi6 [.loc 1000 2 0 0] (mD d)=some (zgp (l,d'))∧DMarkers l∧DOk d':=by
 have asc1:∀ {l:List zaU} {m:zaU},AscBy zaU.ID l→(∀ x∈l,x.ID < m.ID)→AscBy zaU.ID (l++[m]):=by
  intro l m h1 h2 j hj; simp at hj; by_cases h:j+1 < l.length
  · rw [zmF (by omega),zmF h]; exact h1 j h
  · have hj':j+1=l.length:=by omega
    rw [zmF (by omega),List.getElem_append_right (by omega)]; simpa using h2 _ (zbg (by omega))
 have loop:∀ (k:Nat) (l:List zaU) (d:zae) (id:Int),DOk d→0≤id→id≤3*l.length→l.length+k≤5→(∀ m∈l,zhY m∧AscBy _root_.id m.Papers)→AscBy zaU.ID l→(∀ m∈l,m.ID≤id)→(∀ m∈l,m.Papers.length≤2)→∃ (l':List zaU) (d':zae),zfG (List.map zaR l) d id k=some (zgp (l',d'))∧(l'.length=l.length+k∧(∀ m∈l',zhY m∧AscBy _root_.id m.Papers)∧AscBy zaU.ID l'∧(∀ m∈l',m.Papers.length≤2)∧∀ m∈l',m.ID≤15)∧DOk d':=by
  intro k
  induction k with
  | zero=>intro l d id hd h0 h1 h2 h3 h4 h5 h6; refine ⟨l,d,zlV _ _ _ _ ?_,⟨rfl,h3,h4,h6,fun m hm=>by have:=h5 m hm; omega⟩,hd⟩; simp (disch:=omega) only [zaT,zbL]; rfl
  | succ k ih =>
    intro l d id hd h0 h1 h2 h3 h4 h5 h6; obtain ⟨n0,d0,e0,a0,b0,hd0⟩:=zc6 d 3 hd (by omega); obtain ⟨n1,d1,e1,a1,hd1⟩:=c_Pick d0 [-1,-1,1,2,3] hd0 (by simp) (by simp); obtain ⟨n2,d2,e2,a2,hd2⟩:=c_Pick d1 [1,1,1,2,3] hd1 (by simp) (by simp); obtain ⟨n3,d3,e3,a3,hd3⟩:=c_Pick d2 [3,2,6,0,1] hd2 (by simp) (by simp); obtain ⟨n4,d4,e4,a4,b4,hd4⟩:=zc6 d3 4 hd3 (by omega); have hlt:n4.toNat < ([[0,1],[0],[1],[0,1]]:List (List Int)).length:=by simp; omega
    have hpapers:∀ q∈([[0,1],[0],[1],[0,1]]:List (List Int)),(∀ n∈q,0≤n∧n≤31)∧AscBy _root_.id q∧q.length≤2:=by
     intro q hq; simp only [za1,zcZ,or_false] at hq
     have A:AscBy _root_.id ([0,1]:List Int):=fun j hj=>by
      simp at hj; have:j=0:=by omega
      subst this; show (0:Int) < 1; omega
     rcases hq with rfl | rfl | rfl | rfl
     · exact ⟨by simp,A,by simp⟩
     · exact ⟨by simp,fun j hj=>by simp at hj,by simp⟩
     · exact ⟨by simp,fun j hj=>by simp at hj,by simp⟩
     · exact ⟨by simp,A,by simp⟩
    obtain ⟨q1,q2,q3⟩:=hpapers _ (zbg hlt); simp only [za1,zcZ,or_false] at a1 a2 a3
    obtain ⟨l',d',e5,o1,hd'⟩:=ih (l++[⟨id+(1+n0),n1,n2,n3,([[0,1],[0],[1],[0,1]]:List (List Int))[n4.toNat]⟩]) d4 (id+(1+n0)) hd4 (by omega) (by simp; omega) (by simp; omega)
     (by
      intro m hm; rcases zbF.1 hm with h | h
      · exact h3 m h
      · simp only [zcf] at h; subst h
        refine ⟨⟨?_,?_,?_,?_,q1⟩,q2⟩ <;> dsimp only <;> omega)
     (asc1 h4 (fun x hx=>by have:=h5 x hx; dsimp only; omega))
     (by
      intro m hm; rcases zbF.1 hm with h | h
      · have:=h5 m h; omega
      · simp only [zcf] at h; subst h
        dsimp only; omega)
     (by
      intro m hm; rcases zbF.1 hm with h | h
      · exact h6 m h
      · simp only [zcf] at h; subst h
        exact q3)
    refine ⟨l',d',zlV _ _ _ _ ?_,⟨by have:=o1.1; simp at this; omega,o1.2⟩,hd'⟩; have e6:w64 (((k+1:Nat):Int) - 1)=(k:Int):=by rw [w6Q]; omega
    simp (disch:=omega) only [zaF,e0,e1,e2,e3,e4,zbi,zbi,zan,zbL,zap,w64_id,e6]; rw [show ([zcQ [0,1],zcQ [0],zcQ [1],zcQ [0,1]]:List (List AV))=List.map zcQ [[0,1],[0],[1],[0,1]] from rfl,zyY,zaC hlt,zaY]; simp (disch:=omega) only [zan,zbL,zap,w64_id,zel,e5]
 obtain ⟨n,d0,e0,a0,b0,hd0⟩:=zc6 d 4 hd (by omega); obtain ⟨l',d',e1,⟨o1,o2,o3,o4,o5⟩,hd'⟩:=loop (2+n).toNat [] d0 0 hd0 (by omega) (by simp) (by simp; omega) (by simp) (fun j hj=>by simp at hj) (by simp) (by simp); simp at o1; refine ⟨l',d',zsU d ?_,⟨by omega,by omega,⟨by omega,o2,o3⟩,o4,o5⟩,hd'⟩; simp only [e0,zbi]; rw [w6Q]; rw [aLiAs44 (by omega)] at e1; exact e1
theorem asc_snoc {α:Type} {f:α→Int} {l:List α} {m:α} (h1:AscBy f l) (h2:∀ x∈l,f x < f m):AscBy f (l++[m]):=by
 intro j hj; simp at hj; by_cases h:j+1 < l.length
 · rw [zmF (by omega),zmF h]; exact h1 j h
 · have hj':j+1=l.length:=by omega
   rw [zmF (by omega),List.getElem_append_right (by omega)]; simpa using h2 _ (zbg (by omega))
def zlm (n:Int) (p:zaE) (x:zaN):Prop:=
 x.Paper=p.Code∧x.Variant=p.Variant∧x.Number=p.Code*10000+x.Candidate∧(1≤x.Candidate∧x.Candidate≤n)∧(1≤x.Centre∧x.Centre≤3)∧x.Pages.length=2∧(∀ y∈x.Pages,0≤y∧y≤1000000)∧OkAns p x.Answers
theorem c_Script (d:zae) (p:zaE) (c n:Int) (hd:DOk d) (hp:DPaper p) (h1:0≤p.Code∧p.Code≤31) (hc:1≤c∧c≤n) (hn:n≤9):∃ (x:zaN) (d':zae),cw zjN [.loc 1000 2 0 0,.agg (zaL p),I c] (mD d)=some (zgX (x,d'))∧zlm n p x∧x.Candidate=c∧DOk d':=by
 have hl:=hp.1; obtain ⟨n0,d0,e0,a0,b0,hd0⟩:=zc6 d 3 hd (by omega); obtain ⟨n1,d1,e1,a1,b1,hd1⟩:=zc6 d0 3 hd0 (by omega); have loop:=zdJ p.Parts (fun i r=>∀ (a:List Int) (d2:zae),(a.length:Int)=i→DOk d2→(∀ (j:Nat) (x:GPart) (v:Int),p.Parts[j]?=some x→a[j]?=some v→x.Kind≠1→-2≤v∧v < x.Options)→∃ (x:zaN) (d':zae),zeD d p c (n0,d0) (n1,d1) (List.map zak a) d2 i=some (zgX (x,d'))∧zlm n p x∧x.Candidate=c∧DOk d') ?_ ?_ [] d1 (by simp) hd1 (by intro j x v _ h; simp at h)
 · obtain ⟨x,d',e2,h⟩:=loop; refine ⟨x,d',zty d p c ?_,h⟩; simp only [e0,e1,zbi]; exact e2
 · intro a d2 ha hd2 hok; refine ⟨⟨p.Code*10000+c,p.Code,c,1+n0,p.Variant,[100*c+p.Code,n1],a⟩,d2,zis _ _ _ _ _ _ _ _ ?_,?_,rfl,hd2⟩
   · simp (disch:=omega) only [zap,zaT,zb5,zbR,zbL,w64_id]; rw [zcN (by simp),zcN (by simp)]; rfl
   · refine ⟨rfl,rfl,rfl,hc,by dsimp only; omega,rfl,?_,by dsimp only; omega,hok⟩; intro y hy; simp only [za1,zcZ,or_false] at hy; omega
 · intro i hi r hr ih a d2 ha hd2 hok; obtain ⟨hx,_⟩:=hp.2.2.1 _ (zbg hi)
   have snoc:∀ v:Int,(p.Parts[i].Kind≠1→-2≤v∧v < p.Parts[i].Options)→∀ (j:Nat) (x:GPart) (w:Int),p.Parts[j]?=some x→(a++[v])[j]?=some w→x.Kind≠1→-2≤w∧w < x.Options:=by
    intro v hv j x w hj hw; by_cases hja:j < a.length
    · rw [zmE hja] at hw; exact hok j x w hj hw
    · have:=(zbs.1 hw).1; simp at this; have hji:j=a.length:=by omega
      subst hji; simp at hw; subst hw; have:i=a.length:=by omega
      subst this; rw [zaC hi] at hj; injection hj with hj; subst hj; exact hv
   rcases kind2 hx with hk | hk
   · obtain ⟨x,d',e2,h⟩:=ih (a++[-1]) d2 (by simp; omega) hd2 (snoc _ (fun h=>absurd hk h)); refine ⟨x,d',zis _ _ _ _ _ _ _ _ ?_,h⟩; simp (disch:=omega) only [zap,zaF,zan,zbL,za4,zfk,zaC hi,zaY,show (p.Parts[i].Kind == 2)=false by rw [hk]; rfl,zaw,w64_id,zel zak,e2]
   · obtain ⟨v,d3,e3,hv,hd3⟩:=c_Pick d2 [p.Parts[i].Key,0,1,-1,-2] hd2 (by simp) (by simp)
     have hv':-2≤v∧v < p.Parts[i].Options:=by unfold OkPart at hx; simp only [za1,zcZ,or_false] at hv; omega
     obtain ⟨x,d',e2,h⟩:=ih (a++[v]) d3 (by simp; omega) hd3 (snoc _ (fun _=>hv')); refine ⟨x,d',zis _ _ _ _ _ _ _ _ ?_,h⟩; simp (disch:=omega) only [zap,zaF,zan,zbL,za4,zfk,zaC hi,zaY,show (p.Parts[i].Kind == 2)=true by rw [hk]; rfl,zaI,e3,zbi,w64_id,zel zak,e2]
def zrs (n:Int) (ps:List zaE) (l:List zaN):Prop:=(∀ x∈l,∃ p∈ps,zlm n p x)∧AscBy zaN.Number l∧(l.length:Int)≤2*n
theorem c_Scripts (d:zae) (ps:List zaE) (n:Int) (hd:DOk d) (hps:zkd ps) (hn:0≤n∧n≤9):∃ (l:List zaN) (d':zae),cw zi8 [.loc 1000 2 0 0,.sl 3 (List.map zaL ps),I n] (mD d)=some (zgq (l,d'))∧zrs n ps l∧DOk d':=by
 have hpl:=hps.2.1
 let Inv:Int→List zaN→Prop:=fun code l=>(∀ x∈l,(∃ p∈ps,zlm n p x)∧x.Number < code*10000)∧AscBy zaN.Number l∧(l.length:Int)≤code*n
 let Res:Option (AV×Mem)→Prop:=fun o=>∃ (l:List zaN) (d':zae),o=some (zgq (l,d'))∧zrs n ps l∧DOk d'
 have stage2:∀ (out:List zaN) (d:zae),Inv 2 out→DOk d→Res (zc4 ps n (List.map zaS out) d 2):=by intro out d hi hd; refine ⟨out,d,zlW _ _ _ _ _ ?_,⟨fun x hx=>(hi.1 x hx).1,hi.2.1,hi.2.2⟩,hd⟩; simp (disch:=omega) only [zaT,zbL]; rfl
 have step:∀ (code:Int),0≤code→code≤1→(∀ (out:List zaN) (d:zae),Inv (code+1) out→DOk d→Res (zc4 ps n (List.map zaS out) d (code+1)))→∀ (out:List zaN) (d:zae),Inv code out→DOk d→Res (zc4 ps n (List.map zaS out) d code):=by
  intro code hc0 hc1 next out d hi hd
  have third:∀ (l:List zaE),(∀ p∈l,p∈ps∧p.Code=code)→l.length≤3→∀ (m:Nat) (c:Int) (out:List zaN) (d:zae),c+m=n+1→1≤c→(∀ x∈out,(∃ p∈ps,zlm n p x)∧x.Number < code*10000+c)→AscBy zaN.Number out→(out.length:Int)≤code*n+(c - 1)→DOk d→Res (zeu ps n code (List.map zaL l) (List.map zaS out) d c):=by
   intro l hl hll m
   induction m with
   | zero =>
     intro c out d hc h1 g1 g2 g3 hd; obtain ⟨l',d',e1,h⟩:=next out d ⟨fun x hx=>⟨(g1 x hx).1,by have:=(g1 x hx).2; rw [Int.add_mul]; omega⟩,g2,by rw [Int.add_mul]; omega⟩ hd
     refine ⟨l',d',zfH _ _ _ _ _ _ _ ?_,h⟩; simp (disch:=omega) only [zaT,w64_id,e1]
   | succ m ih =>
     intro c out d hc h1 g1 g2 g3 hd; have hcn:code*n≤9:=by rcases (by omega:code=0∨code=1) with h | h <;> rw [h] <;> omega
     have hol:out.length≤20:=by omega
     by_cases hlz:0 < l.length
     · obtain ⟨n0,d0,e0,a0,b0,hd0⟩:=zc6 d 5 hd (by omega); by_cases h0:0 < n0
       · obtain ⟨n1,d1,e1,a1,b1,hd1⟩:=zc6 d0 l.length hd0 (by omega); have hlt:n1.toNat < l.length:=by omega
         obtain ⟨hp1,hp2⟩:=hl _ (zbg hlt); obtain ⟨q1,q2,q3⟩:=hps.2.2.1 _ hp1; obtain ⟨x,d2,e2,hx,hxc,hd2⟩:=c_Script d1 l[n1.toNat] c n hd1 q1 (by omega) (by omega) hn.2; have hxn:=hx.2.2.1
         obtain ⟨l',d',e3,h⟩:=ih (c+1) (out++[x]) d2 (by omega) (by omega)
          (by
           intro y hy; rcases zbF.1 hy with hy | hy
           · exact ⟨(g1 y hy).1,by have:=(g1 y hy).2; omega⟩
           · simp only [zcf] at hy; subst hy
             exact ⟨⟨_,hp1,hx⟩,by rw [hxn,hp2,hxc]; omega⟩)
          (asc_snoc g2 (fun y hy=>by rw [hxn,hp2,hxc]; exact (g1 y hy).2))
          (by simp; omega) hd2
         refine ⟨l',d',zfH _ _ _ _ _ _ _ ?_,h⟩; simp (disch:=omega) only [zap,zaF,e0,zbi,e1,zan,zbL,zb5,zfu,zaC hlt,zaY,e2,zqc,w64_id,zel zaS,e3]
       · obtain ⟨l',d',e3,h⟩:=ih (c+1) out d0 (by omega) (by omega) (fun y hy=>⟨(g1 y hy).1,by have:=(g1 y hy).2; omega⟩) g2 (by omega) hd0; refine ⟨l',d',zfH _ _ _ _ _ _ _ ?_,h⟩; simp (disch:=omega) only [zap,zaF,zaT,e0,zbi,w64_id,e3]
     · obtain ⟨l',d',e1,h⟩:=next out d ⟨fun x hx=>⟨(g1 x hx).1,by have:=(g1 x hx).2; rw [Int.add_mul]; omega⟩,g2,by rw [Int.add_mul]; omega⟩ hd
       refine ⟨l',d',zfH _ _ _ _ _ _ _ ?_,h⟩; simp (disch:=omega) only [zap,zaF,zaT,w64_id,e1]
  have second:=zdJ ps (fun i r=>∀ l:List zaE,(∀ p∈l,p∈ps∧p.Code=code)→(l.length:Int)≤i→Res (zet ps n (List.map zaS out) d code (List.map zaL l) i)) ?_ ?_ [] (by simp) (by simp)
  · obtain ⟨l',d',e1,h⟩:=second; refine ⟨l',d',zlW _ _ _ _ _ ?_,h⟩; simp (disch:=omega) only [zaF]; exact e1
  · intro l hl hll; obtain ⟨l',d',e1,h⟩:=third l hl (by omega) n.toNat 1 out d (by omega) (by omega) (fun x hx=>⟨(hi.1 x hx).1,by have:=(hi.1 x hx).2; omega⟩) hi.2.1 (by have:=hi.2.2; omega) hd; refine ⟨l',d',zhO _ _ _ _ _ _ _ ?_,h⟩; simp (disch:=omega) only [zap,zaT,e1]
  · intro i hi' r hr ih l hl hll; by_cases hcode:ps[i].Code=code
    · obtain ⟨l',d',e1,h⟩:=ih (l++[ps[i]]) (by
       intro p hp; rcases zbF.1 hp with hp | hp
       · exact hl p hp
       · simp only [zcf] at hp; subst hp
         exact ⟨zbg hi',hcode⟩) (by simp; omega)
      refine ⟨l',d',zhO _ _ _ _ _ _ _ ?_,h⟩; simp (disch:=omega) only [zap,zaF,zan,zbL,za4,zfu,zaC hi',zaY,show (ps[i].Code == code)=true by simpa using hcode,zaI,w64_id,zel zaL,e1]
    · obtain ⟨l',d',e1,h⟩:=ih l hl (by omega); refine ⟨l',d',zhO _ _ _ _ _ _ _ ?_,h⟩; simp (disch:=omega) only [zap,zaF,zan,zbL,za4,zfu,zaC hi',zaY,show (ps[i].Code == code)=false by simpa using hcode,zaw,w64_id,e1]
 have stage1:=step 1 (by omega) (by omega) stage2; have stage0:=step 0 (by omega) (by omega) stage1; obtain ⟨l,d',e1,h⟩:=stage0 [] d ⟨by simp,fun j hj=>by simp at hj,by simp⟩ hd; exact ⟨l,d',zsW d ps n e1,h⟩
def zwN:zaE:=⟨0,0,[]⟩
theorem c_mpaper (ps:List zaE) (x:zaN) (hl:ps.length≤1000000):cw zmb [.sl 3 (List.map zaL ps),.agg (zaS x)] []=some (zml (((zfd ps x).map (·.2)).getD zwN)):=by
 refine zzI ps x ?_; have key:=zfK ps (fun p=>p.Code == x.Paper && p.Variant == x.Variant) (fun i=>zhI ps x i) (fun o=>zml ((o.map (·.2)).getD zwN)) ?_ ?_ ?_
 · exact key
 · exact zna _ _ _ (by simp (disch:=omega) [zaT] <;> rfl)
 · intro i hi h; refine zna _ _ _ ?_; rw [zbK] at h; simp (disch:=omega) [zaF,zan,h.1,h.2]; rfl
 · intro i hi y h hk; refine zna _ _ _ ?_
   cases h1:(ps[i].Code == x.Paper) with
   | false=>simp (disch:=omega) [zaF,zan,w64_id,h1,hk]
   | true=>rw [h1,zhb] at h; simp (disch:=omega) [zaF,zan,w64_id,h1,h,hk]
theorem c_Seed (d:zae) (ps:List zaE) (x:zaN) (k:Nat) (p:zaE) (hd:DOk d) (hps:ps.length≤1000000) (hk:zfd ps x=some (k,p)) (hp:DPaper p):∃ (y:GSeed) (d':zae),cw zlr [.loc 1000 2 0 0,.sl 3 (List.map zaL ps),.agg (zaS x)] (mD d)=some (zij (y,d'))∧y.Script=x.Number∧zqz p y.Marks∧DOk d':=by
 have hl:=hp.1; have loop:=zdJ p.Parts (fun i r=>∀ (a:List Int) (d2:zae),(a.length:Int)=i→DOk d2→(∀ (j:Nat) (x:GPart) (v:Int),p.Parts[j]?=some x→a[j]?=some v→0≤v∧v≤x.Max)→∃ (y:GSeed) (d':zae),zgS x p (List.map zak a) d2 i=some (zij (y,d'))∧y.Script=x.Number∧zqz p y.Marks∧DOk d') ?_ ?_ [] d (by simp) hd (by intro j x v _ h; simp at h)
 · obtain ⟨y,d',e2,h⟩:=loop; refine ⟨y,d',zv4 d ps x ?_,h⟩; simp only [c_mpaper ps x hps,hk,zpa]; exact e2
 · intro a d2 ha hd2 hok; refine ⟨⟨x.Number,a⟩,d2,znN _ _ _ _ _ ?_,rfl,⟨by dsimp only; omega,hok⟩,hd2⟩; simp (disch:=omega) only [zap,zaT,zb5,zbR,zbL,w64_id]; rw [zcN (by simp)]; rfl
 · intro i hi r hr ih a d2 ha hd2 hok; obtain ⟨hx,hx2⟩:=hp.2.2.1 _ (zbg hi); have hm:=hx.1; obtain ⟨v,d3,e3,a3,b3,hd3⟩:=zc6 d2 (p.Parts[i].Max+1) hd2 (by omega)
   obtain ⟨y,d',e2,h⟩:=ih (a++[v]) d3 (by simp; omega) hd3 (by
    intro j x w hj hw; by_cases hja:j < a.length
    · rw [zmE hja] at hw; exact hok j x w hj hw
    · have:=(zbs.1 hw).1; simp at this; have hji:j=a.length:=by omega
      subst hji; simp at hw; subst hw; have:i=a.length:=by omega
      subst this; rw [zaC hi] at hj; injection hj with hj; subst hj
      omega)
   refine ⟨y,d',znN _ _ _ _ _ ?_,h⟩; simp (disch:=omega) only [zap,zaF,zan,zbL,za4,zfk,zaC hi,zaY,w64_id,e3,zbi,zel zak,e2]
theorem c_Monitor (d:zae) (hd:DOk d):∃ (r:za2) (d':zae),cw zi7 [.loc 1000 2 0 0] (mD d)=some (zja (r,d'))∧OkMon r∧DOk d':=by obtain ⟨n0,d0,e0,a0,b0,hd0⟩:=zc6 d 3 hd (by omega); obtain ⟨n1,d1,e1,a1,b1,hd1⟩:=zc6 d0 2 hd0 (by omega); obtain ⟨n2,d2,e2,a2,b2,hd2⟩:=zc6 d1 3 hd1 (by omega); obtain ⟨n3,d3,e3,a3,b3,hd3⟩:=zc6 d2 (1+n0) hd2 (by omega); refine ⟨⟨n1,n2,1+n0,1+n3⟩,d3,zsV d ?_,by refine ⟨?_,?_,?_,?_⟩ <;> dsimp only <;> omega,hd3⟩; simp (disch:=omega) only [e0,e1,e2,zbi,w64_id,e3]; rfl
structure DSetup (s:zay):Prop where
 ok:zdl s
 papers:zkd s.Papers
 markers:DMarkers s.Markers
 scripts:zrs 4 s.Papers s.Scripts
theorem zsk {ps:List zaE} (hps:zkd ps) {n:Int} {p:zaE} {x:zaN} (hp:p∈ps) (hx:zlm n p x):∃ k,zfd ps x=some (k,p):=by
 unfold zfd
 cases hf:fnd (fun p=>p.Code == x.Paper && p.Variant == x.Variant) 0 ps with
 | none=>have:=zm2.1 hf p hp; rw [hx.1,hx.2.1] at this; simp at this
 | some q=>obtain ⟨k,p'⟩:=q; obtain ⟨h1,h2,_⟩:=fnd_at hf; simp only [zbK,beq_iff_eq] at h2; have:=hps.2.2.2 p' (zbP h1) p hp (by rw [h2.1,hx.1]) (by rw [h2.2,hx.2.1]); rw [this]; exact ⟨k,rfl⟩
theorem scripts_ok {n:Int} (hn:n≤9) {ps:List zaE} (hps:zkd ps) {l:List zaN} (h:zrs n ps l):znr l:=by refine ⟨by have:=h.2.2; omega,fun x hx=>?_,h.2.1⟩; obtain ⟨p,hp,a,b,c,d,e,f,_⟩:=h.1 x hx; obtain ⟨q1,q2,q3⟩:=hps.2.2.1 p hp; exact ⟨by omega,by omega,by omega,by omega,by rw [c,a],by omega⟩
theorem c_Setup (d:zae) (hd:DOk d):∃ (s:zay) (d':zae),cw zkR [.loc 1000 2 0 0] (mD d)=some (zhy (s,d'))∧DSetup s∧DOk d':=by
 obtain ⟨ps,cs,d0,e0,o0,p0,q0,hd0⟩:=c_Papers d hd; obtain ⟨ms,d1,e1,o1,hd1⟩:=c_Markers d0 hd0; obtain ⟨xs,d2,e2,o2,hd2⟩:=c_Scripts d1 ps 4 hd1 o0 (by omega); obtain ⟨mr,d3,e3,o3,hd3⟩:=c_Monitor d2 hd2; have hxl:=o2.2.2; have hpl:=o0.2.1; have hxs:=scripts_ok (by omega) o0 o2; have loop:=zdJ xs (fun i r=>∀ (sd:List GSeed) (d4:zae),(sd.length:Int)≤i→DOk d4→AscBy GSeed.Script sd→(∀ y∈sd,∀ x∈r,y.Script < x.Number)→(∀ y∈sd,∃ x∈xs,∃ k p,y.Script=x.Number∧zfd ps x=some (k,p)∧zqz p y.Marks)→∃ (s:zay) (d':zae),ze0 ((ps,cs),d0) (ms,d1) (xs,d2) (mr,d3) (List.map zbU sd) d4 i=some (zhy (s,d'))∧DSetup s∧DOk d') ?_ ?_ [] d3 (by simp) hd3 (fun j hj=>by simp at hj) (by simp) (by simp)
 · obtain ⟨s,d',e4,h⟩:=loop; refine ⟨s,d',zuJ d ?_,h⟩; simp only [e0,e1,e2,e3,zqa,zpz,zpB,zpA]; exact e4
 · intro sd d4 hl hd4 ha _ hs; refine ⟨⟨ms,xs,ps,cs,sd,mr⟩,d4,zjc _ _ _ _ _ _ _ ?_,?_,hd4⟩
   · simp (disch:=omega) only [zap,zaT,zb5,zbR,zbL]; rw [zcN (by simp),zcN (by simp),zcN (by simp)]; rfl
   · refine ⟨⟨o1.2.2.1,hxs,by dsimp only; omega,p0,fun j p c hp hc=>(q0 j p c hp hc).1,fun x hx=>?_,by dsimp only; omega,ha,fun y hy=>?_,o3,fun c hc=>?_,fun m hm=>by have:=o1.2.2.2.1 m hm; omega⟩,o0,o1,o2⟩
     · obtain ⟨p,hp,hxp⟩:=o2.1 x hx; obtain ⟨k,hk⟩:=zsk o0 hp hxp; have hpk:=(zgV hk).1; have hlt:=(zbs.1 hpk).1; exact ⟨k,p,cs[k]'(show k < cs.length by omega),hk,zaC _,hxp.2.2.2.2.2.2.2⟩
     · obtain ⟨x,hx,k,p,h1,h2,h3⟩:=hs y hy; refine ⟨k,p,?_,h3⟩; unfold zm6; dsimp only; rw [h1,zt0 hxs.2.2 hx]; exact h2
     · obtain ⟨j,hj,rfl⟩:=zh3.1 hc; exact (q0 j _ _ (zaC (by simp only at hj; omega)) (zaC hj)).2
 · intro i hi r hr ih sd d4 hl hd4 ha hlt hs; obtain ⟨b,d5,e5,hd5⟩:=c_Bool d4 3 hd4 (by omega)
   have hrm:∀ x∈r,x∈xs∧xs[i].Number < x.Number:=by intro x hx; rw [← hr] at hx; obtain ⟨j,hj,rfl⟩:=zh3.1 hx; rw [List.getElem_drop]; exact ⟨zbg _,asc_lt hxs.2.2 i _ _ (by omega)⟩
   cases b with
   | false=>obtain ⟨s,d',e4,h⟩:=ih sd d5 (by omega) hd5 ha (fun y hy x hx=>hlt y hy x (by simp [hx])) hs; refine ⟨s,d',zjc _ _ _ _ _ _ _ ?_,h⟩; simp (disch:=omega) only [zap,zaF,e5,zci,zaw,w64_id,e4]
   | true =>
     obtain ⟨p,hp,hxp⟩:=o2.1 _ (zbg hi); obtain ⟨k,hk⟩:=zsk o0 hp hxp; obtain ⟨y,d6,e6,h1,h2,hd6⟩:=c_Seed d5 ps xs[i] k p hd5 (by omega) hk (o0.2.2.1 p hp).1
     obtain ⟨s,d',e4,h⟩:=ih (sd++[y]) d6 (by simp; omega) hd6 (asc_snoc ha (fun z hz=>by rw [h1]; exact hlt z hz _ (by simp)))
      (by
       intro z hz x hx; rcases zbF.1 hz with hz | hz
       · exact hlt z hz x (by simp [hx])
       · simp only [zcf] at hz; subst hz; rw [h1]
         exact (hrm x hx).2)
      (by
       intro z hz; rcases zbF.1 hz with hz | hz
       · exact hs z hz
       · simp only [zcf] at hz; subst hz
         exact ⟨_,zbg hi,k,p,h1,hk,h2⟩)
     refine ⟨s,d',zjc _ _ _ _ _ _ _ ?_,h⟩; simp (disch:=omega) only [zap,zaF,e5,zci,zaI,zan,zbL,zb5,za4,zle,zaC hi,zaY,e6,zrS,w64_id,zel zbU,e4]
def Sat {β:Type} (Q:β→Prop) (o:Option β):Prop:=∃ y,o=some y∧Q y
theorem sat_of {β:Type} {Q:β→Prop} {a b:Option β} (h:∀ y,a=some y→b=some y) (ha:Sat Q a):Sat Q b:=by obtain ⟨y,e,hq⟩:=ha; exact ⟨y,h y e,hq⟩
theorem sat_some {β:Type} {Q:β→Prop} {y:β} (h:Q y):Sat Q (some y):=⟨y,rfl,h⟩
theorem ofScript {s:zay} (hs:DSetup s) {x:zaN} (hx:x∈s.Scripts):∃ k p,zfd s.Papers x=some (k,p)∧p∈s.Papers∧zlm 4 p x∧DPaper p:=by obtain ⟨p,hp,h⟩:=hs.scripts.1 x hx; obtain ⟨k,hk⟩:=zsk hs.papers hp h; exact ⟨k,p,hk,hp,h,(hs.papers.2.2.1 p hp).1⟩
def FullEv (n:Int) (e:zab):Prop:=e.Pages.length≤12∧e.Kind=0∧n≤e.Stamp.Time∧e.Stamp.Time≤n+120∧1000≤e.Stamp.Seq∧e.Marker=0
theorem c_FullK (d:zae) (s:zay) (n:Int) (hd:DOk d) (hs:DSetup s) (hn:0≤n∧n≤1000):∃ (l:List zab) (d':zae),cw zlq [.loc 1000 2 0 0,.agg (zau s),I n] (mD d)=some (zgW (l,d'))∧l.length≤120∧(∀ e∈l,FullEv n e)∧DOk d':=by
 have hm2:=hs.markers.2.1; have hsl:=hs.scripts.2.2; have hpl:=hs.papers.2.1
 let Q:AV×Mem→Prop:=fun y=>∃ (l:List zab) (d':zae),y=zgW (l,d')∧l.length≤120∧(∀ e∈l,FullEv n e)∧DOk d'
 have loop:=zdJ s.Scripts (fun i _=>∀ (out:List zab) (d:zae),(out.length:Int)≤15*i→(∀ e∈out,FullEv n e)→DOk d→Sat Q (zgQ s n (List.map zaa out) d i)) ?_ ?_ [] d (by simp) (by simp) hd
 · obtain ⟨y,e1,l,d',rfl,h⟩:=loop; exact ⟨l,d',zv2 _ _ _ e1,h⟩
 · intro out d hl hp hd; refine sat_of (fun y=>znK _ _ _ _ _) ?_; simp (disch:=omega) only [zap,zaT,zbL]; exact sat_some ⟨out,d,rfl,by omega,hp,hd⟩
 · intro i hi r _ ih out d hl hp hd; obtain ⟨k,p,hk,hpm,hx,hdp⟩:=ofScript hs (zbg hi); have hpp:=hdp.1; have hpg:=hx.2.2.2.2.2.1; refine sat_of (fun y=>znK _ _ _ _ _) ?_; simp (disch:=omega) only [zap,zaF,zan,za4,zle,zaC hi,zaY,c_mpaper s.Papers _ (show s.Papers.length≤1000000 by omega),hk,zc1,ziP,zpa]; refine zdJ s.Markers (fun j _=>∀ (out:List zab) (d:zae),(out.length:Int)≤15*i+3*j→(∀ e∈out,FullEv n e)→DOk d→Sat Q (zgR s n i p (List.map zaa out) d j)) ?_ ?_ out d (by omega) hp hd
   · intro out d hl hp hd; refine sat_of (fun y=>znL _ _ _ _ _ _ _) ?_; simp (disch:=omega) only [zap,zaT,w64_id]; exact ih out d (by omega) hp hd
   · intro j hj r _ ih2 out d hl hp hd; refine sat_of (fun y=>znL _ _ _ _ _ _ _) ?_; simp (disch:=omega) only [zap,zaF]; refine zdJ p.Parts (fun q _=>∀ (out:List zab) (d:zae),(out.length:Int)≤15*i+3*j+q→(∀ e∈out,FullEv n e)→DOk d→Sat Q (zes s n i p j (List.map zaa out) d q)) ?_ ?_ out d (by omega) hp hd
     · intro out d hl hp hd; refine sat_of (fun y=>znM _ _ _ _ _ _ _ _) ?_; simp (disch:=omega) only [zap,zaT,w64_id]; exact ih2 out d (by omega) hp hd
     · intro q hq r _ ih3 out d hl hp hd; have hmx:=(hdp.2.2.1 _ (zbg hq)).1.1; refine sat_of (fun y=>znM _ _ _ _ _ _ _ _) ?_; by_cases hkd:p.Parts[q].Kind=1
       · obtain ⟨n0,d0,e0,a0,b0,hd0⟩:=zc6 d 4 hd (by omega); by_cases hz:0 < n0
         · obtain ⟨n1,d1,e1,a1,b1,hd1⟩:=zc6 d0 (p.Parts[q].Max+1) hd0 (by omega); simp (disch:=omega) only [zap,zaF,zan,za4,zfk,zaC hq,zaY,show (p.Parts[q].Kind == 1)=true by simpa using hkd,zaI,e0,zbi,zfJ,zaC hj,zle,zaC hi,w64_id,e1,zbL,zel zaa]; refine ih3 (out++[_]) d1 (by simp; omega) ?_ hd1; intro x hx'; rcases zbF.1 hx' with hx' | hx'
           · exact hp x hx'
           · simp only [zcf] at hx'; subst hx'; refine ⟨?_,rfl,?_,?_,?_,rfl⟩ <;> dsimp only <;> omega
         · simp (disch:=omega) only [zap,zaF,zaT,zan,za4,zfk,zaC hq,zaY,show (p.Parts[q].Kind == 1)=true by simpa using hkd,zaI,e0,zbi,w64_id]; exact ih3 out d0 (by omega) hp hd0
       · simp (disch:=omega) only [zap,zaF,zaT,zan,za4,zfk,zaC hq,zaY,show (p.Parts[q].Kind == 1)=false by simpa using hkd,zaw,w64_id]; exact ih3 out d (by omega) hp hd
end Go.Proofs.YtikogkgdkdmljaaGreat
end
