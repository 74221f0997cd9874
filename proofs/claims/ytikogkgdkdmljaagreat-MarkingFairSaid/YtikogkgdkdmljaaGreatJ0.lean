/- Loops and branches of printed trees. -/
import Derived.Test.YtikogkgdkdmljaaGreatK5
import Derived.Test.YtikogkgdkdmljaaGreatAb9
set_option linter.unusedSimpArgs false
set_option linter.unusedVariables false
noncomputable section
namespace Go.Proofs.YtikogkgdkdmljaaGreat
open Go.Ab
theorem w6Q {n:Int} (h1:-9223372036854775808≤n:=by omega) (h2:n < 9223372036854775808:=by omega):w64 n=n:=w64_id h1 h2
theorem iNQ {c:Prop} [Decidable c] {α:Type} {t e:α} (h:¬c:=by omega):ite c t e=e:=if_neg h
theorem iPQ {c:Prop} [Decidable c] {α:Type} {t e:α} (h:c:=by omega):ite c t e=t:=if_pos h
theorem iNs {c:Prop} [Decidable c] {α:Type} {t e:α} (h:¬c:=by simp):ite c t e=e:=if_neg h
theorem cPQ {p:Prop} {β:Type} {x:Option β} (h:p:=by omega):chk p x=x:=zao h x
theorem zbr {p:Prop} (h:p):dec p=true:=by unfold dec; simp [h]
theorem zbp {p:Prop} (h:¬p):dec p=false:=by unfold dec; simp [h]
theorem zkK {p q:Prop} (h:p↔q):dec p=dec q:=by rw [propext h]
theorem zqX {p:Prop}:dec p=true↔p:=by unfold dec; simp
theorem ziq {b:Bool} {p:Prop} (h:b=true↔p):b=dec p:=by
 by_cases hp:p
 · rw [zbr hp]; exact h.2 hp
 · rw [zbp hp]; cases b with
   | true=>exact absurd (h.1 rfl) hp
   | false=>rfl
theorem zei {β:Type} (b:Bool) (t e:Option β):brn b t e=if b=true then t else e:=by cases b <;> rfl
variable {α β:Type}
theorem zdB (l:List α) (P:Int→List α→Prop) (h0:P l.length [])
  (hs:∀ (i:Nat) (hi:i < l.length) (r:List α),l.drop (i+1)=r→P ((i:Int)+1) r→P i (l[i] :: r)):P 0 l:=by
 have key:∀ (n i:Nat),i+n=l.length→P (i:Int) (l.drop i):=by
  intro n
  induction n with
  | zero=>intro i hi; have:l.drop i=[]:=zkE (by omega); rw [this,show i=l.length by omega]; exact h0
  | succ n ih =>
    intro i hi; have hlt:i < l.length:=by omega
    rw [zdC hlt]; have:=ih (i+1) (by omega); rw [zpB] at this; exact hs i hlt _ rfl this
 have:=key l.length 0 (by omega); simpa using this
theorem zpn (n:Nat) (G:∀ j,j < n→Prop) (K:Int→Option β) (S:β→Prop) (z:β) (h0:(∀ j hj,G j hj)→K n=some z)
  (hno:∀ (i:Nat) (hi:i < n),(∀ j (hj:j < i),G j (by omega))→¬ G i hi→∃ y,S y∧K i=some y) (hyes:∀ (i:Nat) (hi:i < n) (y:β),G i hi→K ((i:Int)+1)=some y→K i=some y):((∀ j hj,G j hj)∧K 0=some z)∨((∃ j hj,¬ G j hj)∧∃ y,S y∧K 0=some y):=by
 have key:∀ (m i:Nat),i+m=n→(∀ j (hj:j < i) (hn:j < n),G j hn)→((∀ j hj,i≤j→G j hj)∧K (i:Int)=some z)∨((∃ j hj,¬ G j hj)∧∃ y,S y∧K (i:Int)=some y):=by
  intro m
  induction m with
  | zero=>intro i hi hpre; left; refine ⟨fun j hj h=>by omega,?_⟩; rw [show i=n by omega,h0 (fun j hj=>hpre j (by omega) hj)]
  | succ m ih =>
    intro i hi hpre; by_cases hg:G i (by omega)
    · have:=ih (i+1) (by omega) (fun j hj hn=>by
       by_cases e:j=i
       · subst e; exact hg
       · exact hpre j (by omega) hn)
      rw [zpB] at this; rcases this with ⟨h1,h2⟩ | ⟨h1,y,h2,h3⟩
      · left; refine ⟨fun j hj h=>?_,hyes i (by omega) z hg h2⟩; by_cases e:j=i
        · subst e; exact hg
        · exact h1 j hj (by omega)
      · exact .inr ⟨h1,y,h2,hyes i (by omega) y hg h3⟩
    · exact .inr ⟨⟨i,by omega,hg⟩,hno i (by omega) (fun j hj=>hpre j hj _) hg⟩
 rcases key n 0 (by omega) (fun j hj=>by omega) with ⟨h1,h2⟩ | h
 · exact .inl ⟨fun j hj=>h1 j hj (zkI _),h2⟩
 · exact .inr h
theorem zlL (n:Nat) (G:∀ j,j < n→Prop) (K:Int→Option β) (q:Bool→β) (h0:K n=some (q true))
  (hno:∀ (i:Nat) (hi:i < n),¬ G i hi→K i=some (q false)) (hyes:∀ (i:Nat) (hi:i < n) (y:β),G i hi→K ((i:Int)+1)=some y→K i=some y):K 0=some (q (dec (∀ j hj,G j hj))):=by
 rcases zpn n G K (fun x=>x=q false) (q true) (fun _=>h0) (fun i hi _ h=>⟨_,rfl,hno i hi h⟩) hyes with ⟨h1,h2⟩ | ⟨⟨j,hj,h1⟩,y,rfl,h2⟩
 · rw [h2,zbr h1]
 · rw [h2,zbp (fun h=>h1 (h j hj))]
theorem any_bool (n:Nat) (G:∀ j,j < n→Prop) (K:Int→Option β) (q:Bool→β) (h0:K n=some (q false))
  (hyes:∀ (i:Nat) (hi:i < n),G i hi→K i=some (q true)) (hno:∀ (i:Nat) (hi:i < n) (y:β),¬ G i hi→K ((i:Int)+1)=some y→K i=some y):K 0=some (q (dec (∃ j hj,G j hj))):=by
 have h:=zlL n (fun i hi=>¬ G i hi) K (fun b=>q (!b)) (by simpa using h0) (fun i hi hg=>by simpa using hyes i hi (Classical.not_not.1 hg)) hno; rw [h]; congr 2; by_cases hp:∃ j hj,G j hj
 · rw [zbr hp,zbp (fun h=>by obtain ⟨j,h1,h2⟩:=hp; exact h j h1 h2)]; rfl
 · rw [zbp hp,zbr (fun j h1 h2=>hp ⟨j,h1,h2⟩)]; rfl
theorem all_err (n:Nat) (G:∀ j,j < n→Prop) (K:Int→Option β) (q:Int→β) (h0:K n=some (q 0))
  (hno:∀ (i:Nat) (hi:i < n),¬ G i hi→∃ e,e≠0∧K i=some (q e)) (hyes:∀ (i:Nat) (hi:i < n) (y:β),G i hi→K ((i:Int)+1)=some y→K i=some y):∃ e,K 0=some (q e)∧(e=0↔∀ j hj,G j hj):=by
 rcases zpn n G K (fun x=>∃ e,e≠0∧x=q e) (q 0) (fun _=>h0) (fun i hi _ h=>by obtain ⟨e,h1,h2⟩:=hno i hi h; exact ⟨_,⟨e,h1,rfl⟩,h2⟩) hyes with ⟨h1,h2⟩ | ⟨⟨j,hj,h1⟩,y,⟨e,h2,rfl⟩,h3⟩
 · exact ⟨0,h2,by simp; exact h1⟩
 · exact ⟨e,h3,fun h=>absurd h h2,fun h=>absurd (h j hj) h1⟩
theorem all_from (s n:Nat) (hs:s≤n) (G:∀ j,s≤j→j < n→Prop) (K:Int→Option β) (q:Bool→β) (h0:K n=some (q true))
  (hno:∀ (i:Nat) (hs:s≤i) (hi:i < n),¬ G i hs hi→K i=some (q false)) (hyes:∀ (i:Nat) (hs:s≤i) (hi:i < n) (y:β),G i hs hi→K ((i:Int)+1)=some y→K i=some y):K s=some (q (dec (∀ j hs hj,G j hs hj))):=by
 have h:=zlL (n - s) (fun j hj=>G (s+j) (by omega) (by omega)) (fun i=>K (s+i)) q (by rw [show ((s:Int)+((n - s:Nat):Int))=n by omega]; exact h0)
  (fun i hi hg=>by have:=hno (s+i) (by omega) (by omega) hg; rw [zpB] at this; exact this)
  (fun i hi y hg hk=>by
   have:=hyes (s+i) (by omega) (by omega) y hg (by rw [zpB,Int.add_assoc]; exact hk)
   rw [zpB] at this; exact this)
 rw [Int.add_zero] at h; rw [h]; congr 2; refine zkK ⟨fun h j h1 h2=>?_,fun h j hj=>h (s+j) (by omega) (by omega)⟩; have:=h (j - s) (by omega); simpa only [show s+(j - s)=j by omega] using this
theorem znr {l:List α} {G:α→Prop}:(∀ j (hj:j < l.length),G l[j])↔∀ x∈l,G x:=by
 constructor
 · intro h x hx; obtain ⟨j,hj,rfl⟩:=zlK.1 hx; exact h j hj
 · exact fun h j hj=>h _ (zbd hj)
theorem zfC {i:Nat} (h:0 < i):((i:Int) - 1).toNat=i - 1:=by omega
theorem zrB {f:α→Int} {l:List α}:(∀ i (hi:i < l.length),∀ h:0 < i,f (l[i - 1]'(by omega)) < f l[i])↔AscBy f l:=by
 constructor
 · intro h j hj; exact h (j+1) hj (by omega)
 · intro h i hi h0; have:=h (i - 1) (by omega); simp only [show i - 1+1=i by omega] at this; exact this
theorem asc_lt {f:α→Int} {l:List α} (h:AscBy f l):∀ (i j:Nat) (hj:j < l.length) (hij:i < j),f (l[i]'(by omega)) < f l[j]:=by
 intro i j hj hij; obtain ⟨d,rfl⟩:∃ d,j=i+1+d:=⟨j - i - 1,by omega⟩
 induction d with
 | zero=>exact h i hj
 | succ d ih=>have h1:=ih (by omega) (by omega); have h2:=h (i+1+d) (by omega); have:l[i+1+(d+1)]'hj=l[i+1+d+1]'(by omega):=rfl; rw [this]; exact Int.lt_trans h1 h2
theorem fnd_some {p:α→Bool}:∀ {l:List α} {i j:Nat} {x:α},fnd p i l=some (j,x)→i≤j∧l[j - i]?=some x∧p x=true∧∀ k y,k < j - i→l[k]?=some y→p y=false
 | [],i,j,x,h=>by simp [fnd] at h
 | a :: l,i,j,x,h=>by
   simp only [fnd] at h; split at h
   · rename_i ha; simp only [zaw,zaI] at h; obtain ⟨rfl,rfl⟩:=h; exact ⟨zbM _,by simp,ha,fun k y hk=>by omega⟩
   · rename_i ha; obtain ⟨h1,h2,h3,h4⟩:=fnd_some h; have e:j - i=(j - (i+1))+1:=by omega
     refine ⟨by omega,by rw [e]; simpa using h2,h3,fun k y hk hy=>?_⟩
     cases k with
     | zero=>simp at hy; subst hy; simpa using ha
     | succ k=>exact h4 k y (by omega) (by simpa using hy)
theorem fnd_at {p:α→Bool} {l:List α} {j:Nat} {x:α} (h:fnd p 0 l=some (j,x)):l[j]?=some x∧p x=true∧∀ k y,k < j→l[k]?=some y→p y=false:=by have:=(fnd_some h).2; simpa using this
theorem znD {p:α→Bool}:∀ {l:List α} {i:Nat},fnd p i l=none↔∀ x∈l,p x=false
 | [],i=>by simp [fnd]
 | a :: l,i=>by
   simp only [fnd]; split
   · rename_i ha; simp [ha]
   · rename_i ha; rw [znD]; simp only [za6,forall_eq_or_imp]; exact ⟨fun h=>⟨by simpa using ha,h⟩,fun h=>h.2⟩
theorem fnd_of {p:α→Bool} {l:List α} {j:Nat} {x:α} (hx:l[j]?=some x) (hp:p x=true) (hk:∀ k y,k < j→l[k]?=some y→p y=false):fnd p 0 l=some (j,x):=by
 cases h:fnd p 0 l with
 | none=>have:=znD.1 h x (zbU hx); rw [hp] at this; cases this
 | some q =>
   obtain ⟨i,y⟩:=q; obtain ⟨h1,h2,h3⟩:=fnd_at h; rcases Nat.lt_trichotomy i j with c | c | c
   · have:=hk i y c h1; rw [h2] at this; cases this
   · subst c; rw [hx] at h1; injection h1 with h1; rw [h1]
   · have:=h3 j x c hx; rw [hp] at this; cases this
theorem zfV (l:List α) (p:α→Bool) (K:Int→Option β) (R:Option (Nat×α)→β) (h0:K l.length=some (R none))
  (hyes:∀ (i:Nat) (hi:i < l.length),p l[i]=true→K i=some (R (some (i,l[i])))) (hno:∀ (i:Nat) (hi:i < l.length) (y:β),p l[i]=false→K ((i:Int)+1)=some y→K i=some y):K 0=some (R (fnd p 0 l)):=by
 have H:=zpn l.length (fun j hj=>p l[j]=false) K (fun y=>∃ i x,fnd p 0 l=some (i,x)∧y=R (some (i,x))) (R none) (fun _=>h0)
  (fun i hi hpre hn=>⟨_,⟨i,l[i],fnd_of (zaA hi) (by simpa using hn) (fun k y hk hy=>by
   obtain ⟨hk',rfl⟩:=zbw.1 hy
   exact hpre k hk),rfl⟩,hyes i hi (by simpa using hn)⟩) hno
 rcases H with ⟨h1,h2⟩ | ⟨_,y,⟨i,x,h2,rfl⟩,h3⟩
 · rw [h2,znD.2 ((znr (G:=fun x=>p x=false)).1 h1)]
 · rw [h3,h2]
def mkN (n:Nat) (f:Nat→α) (d:α) (i:Nat):List α:=(List.range n).map fun j=>if j < i then f j else d
theorem zsT (n:Nat) (f:Nat→α) (d:α) (i:Nat):(mkN n f d i).length=n:=by simp [mkN]
theorem mkN_get {n:Nat} {f:Nat→α} {d:α} {i:Nat} (h:i < n):(mkN n f d i)[i]?=some d:=by simp [mkN,h]
theorem mkN_zero (n:Nat) (f:Nat→α) (d:α):mkN n f d 0=List.replicate n d:=by unfold mkN; simp only [Nat.not_lt_zero,if_false,List.map_const',aLiAs15]
theorem zu2 {n:Nat} {f:Nat→α} {d:α} {i:Nat} {v:α} (hv:v=f i):(mkN n f d i).set i v=mkN n f d (i+1):=by
 subst hv; apply zj0; intro j; by_cases hj:j < n
 · by_cases e:i=j
   · subst e; rw [List.getElem?_set_self (by rw [zsT]; exact hj)]; simp [mkN,hj]
   · rw [List.getElem?_set_ne e]; simp only [mkN,zcW,znd hj,zc6]; congr 1; by_cases h:j < i
     · rw [if_pos h,iPQ]
     · rw [if_neg h,iNQ]
 · rw [zpe (by rw [zpC,zsT]; omega),zpe (by rw [zsT]; omega)]
theorem mkN_same {n:Nat} {f:Nat→α} {d:α} {i:Nat} (h:f i=d):mkN n f d i=mkN n f d (i+1):=by
 unfold mkN; apply zje; intro j _; by_cases c:j < i
 · rw [if_pos c,iPQ]
 · by_cases e:j=i
   · subst e; rw [if_neg c,iPQ,h]
   · rw [if_neg c,iNQ]
theorem mkN_all (n:Nat) (f:Nat→α) (d:α):mkN n f d n=(List.range n).map f:=by unfold mkN; apply zje; intro j hj; rw [if_pos (zjf.1 hj)]
theorem zkq {γ:Type} (f:α→γ) (l:List α) (i:Nat) (a:α):(List.map f l).set i (f a)=List.map f (l.set i a):=List.map_set.symm
theorem zcH {γ:Type} (f:α→γ) (l:List α) (a:α):List.map f l++[f a]=List.map f (l++[a]):=by simp
theorem map_rep {γ:Type} (f:α→γ) (n:Nat) (a:α):List.replicate n (f a)=List.map f (List.replicate n a):=by simp
theorem take_len (l:List α):List.take l.length l=l:=zne
instance (p:GPart):Decidable (OkPart p):=by unfold OkPart; infer_instance
theorem zpM (p:GPart):cw zlO [.agg (zaS p)] []=some (zaj (dec (OkPart p))):=by
 refine zwH p ?_; simp only [zei,decide_eq_true_eq,beq_iff_eq]
 repeat' split
 all_goals first
  | (rw [zbp (by unfold OkPart; omega)]; rfl)
  | (rw [show (p.Key == 0)=dec (OkPart p) from ziq (by simp only [beq_iff_eq]; unfold OkPart; omega)]; rfl)
  | (rw [show decide (p.Key < p.Options)=dec (OkPart p) from ziq (by simp only [decide_eq_true_eq]; unfold OkPart; omega)]; rfl)
theorem zv3 (p:GPart) (l:List GPart):sumMax (p :: l)=p.Max+sumMax l:=by simp [sumMax]
theorem zuM {l:List GPart} (h:∀ p∈l,OkPart p):0≤sumMax l∧sumMax l≤40*l.length:=by
 induction l with
 | nil=>simp [sumMax]
 | cons p l ih=>have h1:=ih (fun q hq=>h q (by simp [hq])); have h2:=(h p (by simp)).1; rw [zv3,zfN]; omega
theorem zxx (l:List GPart) (h:∀ p∈l,OkPart p) (hl:l.length≤24):cw zmH [.sl 6 (List.map zaS l)] []=some (zbi (sumMax l)):=by
 refine zxI l ?_; have hb:=zuM h; refine zdB l (fun i r=>∀ s:Int,0≤s→0≤sumMax r→s+sumMax r=sumMax l→zhH l s i=some (zbi (sumMax l))) ?_ ?_ 0 (by omega) (by omega) (by omega)
 · intro s _ _ hs; refine zoS l _ _ ?_; simp (disch:=omega) [zaQ]; rw [← hs]; simp [sumMax]; rfl
 · intro i hi r hr ih s h0 h1 hs; refine zoS l _ _ ?_; have hm:=(h l[i] (zbd hi)).1; rw [zv3] at hs h1; have hr0:0≤sumMax r:=(zuM (l:=r) (fun q hq=>h q (by rw [← hr] at hq; exact zkD hq))).1; simp (disch:=omega) [zaD,zao,w64_id]; exact ih _ (by omega) hr0 (by omega)
theorem zvl (p:zaG):cw zlc [.agg (zaK p)] []=some (zaj (dec (zi9 p))):=by
 refine zvp p ?_; by_cases hh:((0≤p.Code∧p.Code≤31)∧(0≤p.Variant∧p.Variant < 4)∧(1≤p.Parts.length∧p.Parts.length≤24))
 · simp (disch:=omega) only [zan,zaQ]
   have hg:=fun z h0=>zpn p.Parts.length (fun j hj=>OkPart p.Parts[j]) (fun i=>zgy p i) (fun y=>y=zaj false) z h0
    (fun i hi _ hn=>⟨_,rfl,zjx p _ (by simp (disch:=omega) [zaD,zao,zpM,zbp hn]; rfl)⟩)
    (fun i hi y hy hk=>zjx p _ (by simp (disch:=omega) [zaD,zao,w64_id,zpM,zbr hy,hk]))
   rcases hg (zaj (dec (zi9 p))) (fun h=>zjx p _ (by
    have h':=znr.1 h; simp (disch:=omega) [zaQ,zxx p.Parts h' (by omega)]; rw [show decide (sumMax p.Parts≤200)=dec (zi9 p) from ziq (by simp only [decide_eq_true_eq]; unfold zi9; exact ⟨fun h=>⟨hh.1,hh.2.1,hh.2.2,h',h⟩,fun h=>h.2.2.2.2⟩)]
    rfl)) with ⟨h1,h2⟩ | ⟨⟨j,hj,h1⟩,y,rfl,h3⟩
   · exact h2
   · rw [zbp (fun h=>h1 (h.2.2.2.1 _ (zbd hj)))]; exact h3
 · rw [zbp (fun h=>hh ⟨h.1,h.2.1,h.2.2.1⟩)]; simp only [zei,decide_eq_true_eq,zan]
   repeat' split
   all_goals first
    | rfl
    | omega
theorem zBv {ks:List Int}:OkKeys 0 ks↔ks=[]:=by
 constructor
 · intro h
   cases ks with
   | nil=>rfl
   | cons k ks=>have:=h.1 k (by simp); omega
 · rintro rfl; exact ⟨by simp,fun j hj=>by simp at hj⟩
theorem okKeys_iff {o:Int} {ks:List Int}:(∀ j (hj:j < ks.length),(0≤ks[j]∧ks[j] < o)∧∀ h:0 < j,(ks[j - 1]'(by omega)) < ks[j])↔OkKeys o ks:=by unfold OkKeys; rw [← zrB,← znr]; exact ⟨fun h=>⟨fun j hj=>(h j hj).1,fun j hj=>(h j hj).2⟩,fun h j hj=>⟨h.1 j hj,h.2 j hj⟩⟩
theorem zj3 (p:GPart) (ks:List Int) (hp:OkPart p) (hl:ks.length≤1000000):cw zkh [.agg (zaS p),.sl 1 (List.map zai ks)] []=some (zaj (dec (OkKeys p.Options ks))):=by
 refine zur p ks ?_; by_cases hk:p.Kind=1
 · have ho:p.Options=0:=by unfold OkPart at hp; omega
   simp only [hk,beq_self_eq_true,zaE,zan]; rw [show ((ks.length:Int) == 0)=dec (OkKeys p.Options ks) from ziq (by rw [ho,zBv]; simp)]; rfl
 · simp only [show (p.Kind == 1)=false by simpa using hk,zaq]; rw [← zkK okKeys_iff]; refine zlL ks.length _ (fun i=>zeT p ks i) (fun b=>zaj b) ?_ ?_ ?_
   · exact ziT p ks _ (by simp (disch:=omega) only [zan,zaQ]; rfl)
   · intro i hi hg; refine ziT p ks _ ?_; by_cases h1:0≤ks[i]∧ks[i] < p.Options
     · have h0:0 < i:=by
        apply zwl
        rintro rfl
        exact hg ⟨h1,fun h=>absurd h (by omega)⟩
       have h2:¬ (ks[i - 1] < ks[i]):=fun h=>hg ⟨h1,fun _=>h⟩
       simp (disch:=omega) [zaD,zaQ,zao,w64_id,zfC h0]; rfl
     · by_cases h2:ks[i] < 0
       · simp (disch:=omega) [zaD,zao]; rfl
       · simp (disch:=omega) [zaD,zaQ,zao]; rfl
   · intro i hi y hg hk'; refine ziT p ks _ ?_; by_cases h0:0 < i
     · have h2:=hg.2 h0; have h1:=hg.1; simp (disch:=omega) [zaD,zaQ,zao,w64_id,zfC h0,hk']
     · have h1:=hg.1; simp (disch:=omega) [zaD,zaQ,zao,w64_id,hk']
theorem zqs (k:Int):cw zmM [I k] []=some (zaj (dec (0≤k∧k≤2))):=by
 refine zxP k ?_; simp only [zei,beq_iff_eq]
 repeat' split
 all_goals first
  | (rw [zbr (by omega)]; rfl)
  | (rw [zbp (by omega)]; rfl)
theorem zAM {p:zaG} {s:zbt} (h1:s.Keys.length=p.Parts.length) (h2:s.Withdrawn.length=p.Parts.length) (hp:zi9 p):(∀ j (hj:j < p.Parts.length),OkKeys p.Parts[j].Options (s.Keys[j]'(by omega))∧(0≤s.Withdrawn[j]'(by omega)∧s.Withdrawn[j]'(by omega)≤2))↔zfU p s:=by
 unfold zfU; constructor
 · intro h; refine ⟨hp,h1,h2,fun j x ks k a b c=>?_⟩; obtain ⟨hj,rfl⟩:=zbw.1 a; obtain ⟨_,rfl⟩:=zbw.1 b; obtain ⟨_,rfl⟩:=zbw.1 c; exact h j hj
 · intro h j hj; exact h.2.2.2 j _ _ _ (zaA hj) (zaA (by omega)) (zaA (by omega))
theorem zhQ (p:zaG) (s:zbt) (hs:Short s):cw zhU [.agg (zaK p),.agg (zb0 s)] []=some (zaj (dec (zfU p s))):=by
 refine zyG p s ?_; simp only [zvl,zam,zan]; by_cases hp:zi9 p
 · by_cases h1:s.Keys.length=p.Parts.length
   · by_cases h2:s.Withdrawn.length=p.Parts.length
     · simp only [zbr hp,h1,h2,zbA,zaq,bne_self_eq_false]; have hpl:=hp.2.2.1; rw [← zkK (zAM h1 h2 hp)]; refine zlL p.Parts.length _ (fun i=>ziC p s i) (fun b=>zaj b) ?_ ?_ ?_
       · exact zl2 p s _ (by simp (disch:=omega) only [zan,zaQ]; rfl)
       · intro i hi hg; have hi1:i < s.Keys.length:=by omega
         have hi2:i < s.Withdrawn.length:=by omega
         refine zl2 p s _ ?_; have hx:=hp.2.2.2.1 _ (zbd hi); by_cases h3:OkKeys p.Parts[i].Options s.Keys[i]
         · have h4:¬ (0≤s.Withdrawn[i]∧s.Withdrawn[i]≤2):=fun h=>hg ⟨h3,h⟩
           simp (disch:=omega) [zaD,zao,zj3 _ _ hx (hs _ (zbd hi1)),zbr h3,zqs,zbp h4]; rfl
         · simp (disch:=omega) [zaD,zao,zj3 _ _ hx (hs _ (zbd hi1)),zbp h3]; rfl
       · intro i hi y hg hk'; have hi1:i < s.Keys.length:=by omega
         have hi2:i < s.Withdrawn.length:=by omega
         refine zl2 p s _ ?_; have hx:=hp.2.2.2.1 _ (zbd hi); simp (disch:=omega) [zaD,zao,w64_id,zj3 _ _ hx (hs _ (zbd hi1)),zbr hg.1,zqs,zbr hg.2,hk']
     · rw [zbp (p:=zfU p s) (fun h=>h2 h.2.2.1)]; simp only [zbr hp,h1,zbA,zaq,bne_self_eq_false,show ((s.Withdrawn.length:Int) != p.Parts.length)=true by simpa using (by omega:¬ ((s.Withdrawn.length:Int)=p.Parts.length)),zaE]; rfl
   · rw [zbp (p:=zfU p s) (fun h=>h1 h.2.1)]; simp only [zbr hp,zbA,zaq,show ((s.Keys.length:Int) != p.Parts.length)=true by simpa using (by omega:¬ ((s.Keys.length:Int)=p.Parts.length)),zaE]; rfl
 · rw [zbp hp,zbp (fun h=>hp h.1)]; rfl
theorem zeu (n:Int):cw zit [I n] []=some (zaj (dec (0≤n∧n≤31))):=by
 refine zwN n ?_; simp only [zei,decide_eq_true_eq]; split
 · rw [show decide (n≤31)=dec (0≤n∧n≤31) from ziq (by simp only [decide_eq_true_eq]; omega)]; rfl
 · rw [zbp (by omega)]; rfl
theorem zqt (n:Int):cw zcc [I n] []=some (zaj (!dec (0≤n∧n≤31))):=
 zqY n (by rw [zeu,zam]; rfl)
theorem zyt (l:List Int) (hl:l.length≤1000000):cw zbP [.sl 1 (List.map zai l),.fn zcc []] []=some (zaj (!dec (∀ n∈l,0≤n∧n≤31))):=by
 refine zm4 l ?_
 have key:∃ r,cw zb2 [.sl 1 (List.map zai l),.fn zcc []] []=some (zbi r)∧(0≤r↔¬ ∀ n∈l,0≤n∧n≤31):=by
  have H:=zpn l.length (fun j hj=>0≤l[j]∧l[j]≤31) (fun i=>zd0 l i) (fun y=>∃ r:Int,0≤r∧y=zbi r) (zbi (-1)) ?_ ?_ ?_
  · rcases H with ⟨h1,h2⟩ | ⟨⟨j,hj,h1⟩,y,⟨r,h2,rfl⟩,h3⟩
    · refine ⟨-1,zi2 l h2,?_⟩; have:=(znr (G:=fun n=>0≤n∧n≤31)).1 h1; exact ⟨fun h=>by omega,fun h=>absurd this h⟩
    · exact ⟨r,zi2 l h3,fun _ h=>h1 (h _ (zbd hj)),fun _=>h2⟩
  · intro h; exact zfu l _ (by simp (disch:=omega) [zaQ] <;> rfl)
  · intro i hi _ hg; refine ⟨_,⟨(i:Int),by omega,rfl⟩,zfu l _ ?_⟩; simp (disch:=omega) [zaD,zao,zqt,zbp hg]; rfl
  · intro i hi y hg hk; refine zfu l _ ?_; simp (disch:=omega) [zaD,zao,w64_id,zqt,zbr hg,hk]
 obtain ⟨r,h1,h2⟩:=key; rw [h1,za4]
 rw [show decide (0≤r)=!dec (∀ n∈l,0≤n∧n≤31) by
  by_cases hc:∀ n∈l,0≤n∧n≤31
  · rw [zbr hc]; simp only [zbA,decide_eq_false_iff_not]; exact fun h=>(h2.1 h) hc
  · rw [zbp hc]; simp only [zci,decide_eq_true_eq]; exact h2.2 hc]
 rfl
theorem ziY (m:zaZ) (hl:m.Papers.length≤1000000):cw ziu [.agg (zaU m)] []=some (zaj (dec (zie m))):=by
 refine zsE m ?_; simp only [zei,decide_eq_true_eq]
 repeat' split
 all_goals first
  | (rw [zbp (by unfold zie; omega)]; rfl)
  | (rw [zyt _ hl,zam,Bool.not_not,zkK (p:=∀ n∈m.Papers,0≤n∧n≤31) (q:=zie m) ⟨fun h=>⟨by omega,by omega,by omega,by omega,h⟩,fun h=>h.2.2.2.2⟩]; rfl)
theorem zjB (l:List Int) (hl:l.length≤1000000):cw zmJ [.sl 1 (List.map zai l)] []=some (zaj (dec (AscBy id l))):=by
 refine zxJ l ?_; by_cases h1:1≤l.length
 · have h:=all_from 1 l.length h1 (fun j h1 hj=>l[j - 1] < l[j]) (fun i=>zhI l i) (fun b=>zaj b) ?_ ?_ ?_
   · rw [show ((1:Nat):Int)=1 from rfl] at h; rw [h]; congr 2; rw [← zrB]; exact zkK ⟨fun h i hi h0=>h i h0 hi,fun h j h1 hj=>h j hj h1⟩
   · exact zhO _ _ (by simp (disch:=omega) [zaQ] <;> rfl)
   · intro i h0 hi hg; refine zhO _ _ ?_; simp (disch:=omega) [zaD,zao,w64_id,zfC h0]; rfl
   · intro i h0 hi y hg hk; refine zhO _ _ ?_; simp (disch:=omega) [zaD,zaQ,zao,w64_id,zfC h0,hk]
 · rw [zbr (p:=AscBy id l) (fun j hj=>by omega)]; exact zhO _ _ (by simp (disch:=omega) [zaQ] <;> rfl)
theorem zzS {l:List zaZ} (hl:l.length≤16):(∀ j (hj:j < l.length),(zie l[j]∧AscBy id l[j].Papers)∧∀ h:0 < j,(l[j - 1]'(by omega)).ID < l[j].ID)↔zn3 l:=by unfold zn3; rw [← zrB,← znr]; exact ⟨fun h=>⟨hl,fun j hj=>(h j hj).1,fun j hj=>(h j hj).2⟩,fun h j hj=>⟨h.2.1 j hj,h.2.2 j hj⟩⟩
theorem zyv (l:List zaZ) (hs:∀ m∈l,m.Papers.length≤1000000):∃ e,cw znx [.sl 5 (List.map zaU l)] []=some (zbi e)∧(e=0↔zn3 l):=by
 by_cases hl:l.length≤16
 · have H:=all_err l.length (fun j hj=>(zie l[j]∧AscBy id l[j].Papers)∧∀ h:0 < j,(l[j - 1]'(by omega)).ID < l[j].ID) (fun i=>zgn l i) (fun e=>zbi e) ?_ ?_ ?_
   · obtain ⟨e,h1,h2⟩:=H; exact ⟨e,zrL l (by simp (disch:=omega) [zaQ,h1]),h2.trans (zzS hl)⟩
   · exact zgs _ _ (by simp (disch:=omega) [zaQ] <;> rfl)
   · intro i hi hg; have hp:=hs _ (zbd hi); by_cases h1:zie l[i]
     · by_cases h2:AscBy id l[i].Papers
       · have h0:0 < i:=by
          apply zwl
          rintro rfl
          exact hg ⟨⟨h1,h2⟩,fun h=>absurd h (by omega)⟩
         have h3:¬ (l[i - 1].ID < l[i].ID):=fun h=>hg ⟨⟨h1,h2⟩,fun _=>h⟩
         refine ⟨43,by omega,zgs _ _ ?_⟩; simp (disch:=omega) [zaD,zao,w64_id,zfC h0,ziY _ hp,zbr h1,zjB _ hp,zbr h2]; rfl
       · refine ⟨43,by omega,zgs _ _ ?_⟩; simp (disch:=omega) [zaD,zao,ziY _ hp,zbr h1,zjB _ hp,zbp h2]; rfl
     · refine ⟨2,by omega,zgs _ _ ?_⟩; simp (disch:=omega) [zaD,zao,ziY _ hp,zbp h1]; rfl
   · intro i hi y hg hk; have hp:=hs _ (zbd hi); obtain ⟨⟨h1,h2⟩,h3⟩:=hg; refine zgs _ _ ?_; by_cases h0:0 < i
     · have h4:=h3 h0; simp (disch:=omega) [zaD,zaQ,zao,w64_id,zfC h0,ziY _ hp,zbr h1,zjB _ hp,zbr h2,hk]
     · simp (disch:=omega) [zaD,zaQ,zao,w64_id,ziY _ hp,zbr h1,zjB _ hp,zbr h2,hk]
 · refine ⟨3,zrL l ?_,by omega,fun h=>absurd h.1 hl⟩; simp (disch:=omega) [zaD]; rfl
theorem zzT {l:List zaH} (hl:l.length≤60):(∀ j (hj:j < l.length),zsa l[j]∧∀ h:0 < j,(l[j - 1]'(by omega)).Number < l[j].Number)↔zn4 l:=by unfold zn4; rw [← zrB,← znr]; exact ⟨fun h=>⟨hl,fun j hj=>(h j hj).1,fun j hj=>(h j hj).2⟩,fun h j hj=>⟨h.2.1 j hj,h.2.2 j hj⟩⟩
theorem zrG (l:List zaH):∃ e,cw zhS [.sl 7 (List.map zaO l)] []=some (zbi e)∧(e=0↔zn4 l):=by
 by_cases hl:l.length≤60
 · have H:=all_err l.length (fun j hj=>zsa l[j]∧∀ h:0 < j,(l[j - 1]'(by omega)).Number < l[j].Number) (fun i=>zd4 l i) (fun e=>zbi e) ?_ ?_ ?_
   · obtain ⟨e,h1,h2⟩:=H; exact ⟨e,zme l (by simp (disch:=omega) [zaQ,h1]),h2.trans (zzT hl)⟩
   · exact zdj _ _ (by simp (disch:=omega) [zaQ] <;> rfl)
   · intro i hi hg; by_cases h1:zsa l[i]
     · have h0:0 < i:=by
        apply zwl
        rintro rfl
        exact hg ⟨h1,fun h=>absurd h (by omega)⟩
       have h3:¬ (l[i - 1].Number < l[i].Number):=fun h=>hg ⟨h1,fun _=>h⟩
       refine ⟨43,by omega,zdj _ _ ?_⟩; obtain ⟨a1,a2,a3,a4,a5,a6⟩:=h1; simp (disch:=omega) [zaD,zaQ,zao,w64_id,zfC h0,zeu,zbr a1]; rw [← a5]; simp; rfl
     · by_cases a1:0≤l[i].Paper∧l[i].Paper≤31
       · by_cases a2:(0≤l[i].Candidate∧l[i].Candidate≤9999)∧(0≤l[i].Centre∧l[i].Centre≤99)∧(0≤l[i].Variant∧l[i].Variant≤31)
         · refine ⟨1,by omega,zdj _ _ ?_⟩; simp (disch:=omega) [zaD,zaQ,zao,w64_id,zeu,zbr a1]; by_cases a3:l[i].Number=l[i].Paper*10000+l[i].Candidate
           · have a4:12 < (l[i].Pages.length:Int):=by apply Int.not_le.1; intro h; exact h1 ⟨a1,a2.1,a2.2.1,a2.2.2,a3,by omega⟩
             simp (disch:=omega) [a3,zaD]; rfl
           · simp [show (l[i].Number != l[i].Paper*10000+l[i].Candidate)=true by simpa using a3]; rfl
         · refine ⟨2,by omega,zdj _ _ ?_⟩; simp (disch:=omega) [zaD,zao,zeu,zbr a1]; simp only [zei,decide_eq_true_eq]
           repeat' split
           all_goals first
            | rfl
            | omega
       · refine ⟨2,by omega,zdj _ _ ?_⟩; simp (disch:=omega) [zaD,zao,zeu,zbp a1]; rfl
   · intro i hi y hg hk; obtain ⟨h1,h3⟩:=hg; refine zdj _ _ ?_; obtain ⟨a1,a2,a3,a4,a5,a6⟩:=h1; by_cases h0:0 < i
     · have h4:=h3 h0; simp (disch:=omega) [zaD,zaQ,zao,w64_id,zfC h0,zeu,zbr a1,← a5,hk]
     · simp (disch:=omega) [zaD,zaQ,zao,w64_id,zeu,zbr a1,← a5,hk]
 · refine ⟨3,zme l ?_,by omega,fun h=>absurd h.1 hl⟩; simp (disch:=omega) [zaD]; rfl
theorem c_isScore (n:Int):cw zhE [I n] []=some (zaj (dec (0≤n∧n≤200))):=by
 refine zvv n ?_; simp only [zei,decide_eq_true_eq]; split
 · rw [show decide (n≤200)=dec (0≤n∧n≤200) from ziq (by simp only [decide_eq_true_eq]; omega)]; rfl
 · rw [zbp (by omega)]; rfl
theorem zmB (r:za7) (h:OkMon r):cw zgW [.agg (zbG r)] []=some (zbi 0):=by obtain ⟨h1,h2,h3,h4⟩:=h; refine zxN r ?_; simp (disch:=omega) [zaQ,c_isScore,zbr h1,zbr h2]; rfl
theorem zxu (l:List Int) (n:Int) (hl:l.length≤1000000):cw zeJ [.sl 1 (List.map zai l),I n] []=some (zaj (dec (n∈l))):=by
 refine zoY l n ?_; have key:=zfV l (fun x=>n == x) (fun i=>zeV l n i) (fun o=>zbi (match o with | some (i,_)=>(i:Int) | none=>-1)) ?_ ?_ ?_
 · rw [zq3 l n key,za4]
   cases hf:fnd (fun x=>n == x) 0 l with
   | none=>rw [zbp (fun h=>by have:=znD.1 hf n h; simp at this)]; rfl
   | some q =>
     obtain ⟨i,x⟩:=q; obtain ⟨h1,h2,_⟩:=fnd_at hf; have:n=x:=by simpa using h2
     subst this; rw [zbr (zbU h1)]; show some (B (decide (0≤(i:Int))),[])=_; rw [show decide (0≤(i:Int))=true by simp]; rfl
 · exact zgu _ _ _ (by simp (disch:=omega) [zaQ] <;> rfl)
 · intro i hi h; refine zgu _ _ _ ?_; simp (disch:=omega) [zaD,zao,h]; rfl
 · intro i hi y h hk; refine zgu _ _ _ ?_; simp (disch:=omega) [zaD,zao,w64_id,h,hk]
def accB (x:GPart) (ks:List Int) (v:Int):Bool:=if ks=[] then v == x.Key else dec (v∈ks)
theorem zt5 (x:GPart) (ks:List Int) (v:Int) (hl:ks.length≤1000000):cw zlV [.agg (zaS x),.sl 1 (List.map zai ks),I v] []=some (zaj (accB x ks v)):=by
 refine zwT x ks v ?_; unfold accB; by_cases h:ks=[]
 · rw [if_pos h,h]; rfl
 · rw [if_neg h]; have:((ks.length:Int) == 0)=false:=by simpa using h
   simp only [zan,this,zaq,zxu _ _ hl,zam]; rfl
def zj4 (p:zaG) (s:zbt) (a:List Int) (j:Nat):Int:=
 match p.Parts[j]?,s.Keys[j]?,a[j]? with
 | some x,some ks,some v=>if x.Kind=1 then -2 else if accB x ks v=true then x.Max else if v=-1 then -1 else 0
 | _,_,_=>0
def zrI (p:zaG) (s:zbt) (a:List Int):List Int:=(List.range p.Parts.length).map (zj4 p s a)
theorem kind2 {x:GPart} (h:OkPart x):x.Kind=1∨x.Kind=2:=by unfold OkPart at h; omega
theorem zxy (p:zaG) (s:zbt) (a:List Int) (hs:Short s):∃ r:List Int×Int,cw zjE [.agg (zaK p),.agg (zb0 s),.sl 1 (List.map zai a)] []=some (zeX r)∧(r.2=0↔zfU p s∧OkAns p a)∧(r.2=0→r.1=zrI p s a):=by
 by_cases hp:zfU p s
 case neg=>refine ⟨([],1),zmD p s a ?_,by simp [hp],by simp⟩; simp only [zhQ p s hs,zam,zbp hp]; rfl
 obtain ⟨hP,hk,hw,hall⟩:=id hp; have hpl:=hP.2.2.1; by_cases ha:a.length=p.Parts.length
 case neg=>refine ⟨([],22),zmD p s a ?_,by simp [OkAns,ha],by simp⟩; simp only [zhQ p s hs,zam,zbr hp,zbA,zaq,zan,show ((a.length:Int) != p.Parts.length)=true by simpa using (by omega:¬ ((a.length:Int)=p.Parts.length)),zaE]; rfl
 have start:∀ y,zdy p s a 0=some y→cw zjE [.agg (zaK p),.agg (zb0 s),.sl 1 (List.map zai a)] []=some y:=by intro y hy; refine zmD p s a ?_; simp only [zhQ p s hs,zam,zbr hp,zbA,zaq,zan,ha,bne_self_eq_false,hy]
 have second:zdz p s a (List.map zai (List.replicate p.Parts.length 0)) 0=some (zeX (zrI p s a,0)):=by
  rw [← mkN_zero p.Parts.length (zj4 p s a) 0]; have:=zdB p.Parts (fun i r=>zdz p s a (List.map zai (mkN p.Parts.length (zj4 p s a) 0 i.toNat)) i=some (zeX (zrI p s a,0))) ?_ ?_
  · exact this
  · refine zoT _ _ _ _ _ ?_; simp (disch:=omega) only [zan,zaQ,za2,mkN_all,zl6,aLiAs15,zao,zne,zrI.eq_1]; rw [show List.take p.Parts.length (List.map zai (List.map (zj4 p s a) (List.range p.Parts.length)))=List.map zai (List.map (zj4 p s a) (List.range p.Parts.length)) from zcn (by simp)]; rfl
  · intro i hi r hr ih; have hi1:i < s.Keys.length:=by omega
    have hi2:i < a.length:=by omega
    have hkl:=hs _ (zbd hi1); refine zoT _ _ _ _ _ ?_
    have hc:zj4 p s a i=if p.Parts[i].Kind=1 then -2 else if accB p.Parts[i] s.Keys[i] a[i]=true then p.Parts[i].Max else if a[i]=-1 then -1 else 0:=by simp [zj4,hi,hi1,hi2]
    have e1:((i:Int)+1).toNat=i+1:=by omega
    rw [e1] at ih; have hgi:(mkN p.Parts.length (zj4 p s a) 0 i)[i]?=some 0:=mkN_get hi; rcases kind2 (hP.2.2.2.1 _ (zbd hi)) with h1 | h1
    · rw [if_pos h1] at hc; simp (disch:=omega) [zaD,zao,h1,w64_id,hgi,zkq,zu2 hc.symm,-List.map_set,ih]
    · rw [iNQ] at hc
      cases hb:accB p.Parts[i] s.Keys[i] a[i] with
      | true=>rw [if_pos hb] at hc; simp (disch:=omega) [zaD,zao,h1,w64_id,hgi,zkq,zu2 hc.symm,-List.map_set,ih,zt5 _ _ _ hkl,hb]
      | false =>
        rw [if_neg (by rw [hb]; simp)] at hc; by_cases h2:a[i]=-1
        · rw [if_pos h2] at hc; simp (disch:=omega) [zaD,zao,h1,w64_id,hgi,zkq,zu2 hc.symm,-List.map_set,ih,zt5 _ _ _ hkl,hb,← h2]; simp (disch:=omega) [h2,zkq,zu2 hc.symm,-List.map_set,ih]
        · rw [if_neg h2] at hc; simp (disch:=omega) [zaD,zao,h1,w64_id,mkN_same hc,ih,zt5 _ _ _ hkl,hb,show (a[i] == -1)=false by simpa using h2]
 have hfst:∀ j (hj:j < p.Parts.length),(p.Parts[j].Kind≠1→-2≤a[j]'(by omega)∧a[j]'(by omega) < p.Parts[j].Options)↔(p.Parts[j].Kind=2→-2≤a[j]'(by omega)∧a[j]'(by omega) < p.Parts[j].Options):=by intro j hj; have:=kind2 (hP.2.2.2.1 _ (zbd hj)); omega
 have H:=zpn p.Parts.length (fun j hj=>p.Parts[j].Kind≠1→-2≤a[j]'(by omega)∧a[j]'(by omega) < p.Parts[j].Options) (fun i=>zdy p s a i) (fun y=>y=zeX ([],2)) (zeX (zrI p s a,0)) ?_ ?_ ?_
 · rcases H with ⟨h1,h2⟩ | ⟨⟨j,hj,h1⟩,y,rfl,h3⟩
   · refine ⟨_,start _ h2,⟨fun _=>⟨hp,ha,fun j x v q1 q2 q3=>?_⟩,fun _=>rfl⟩,fun _=>rfl⟩; obtain ⟨hj,rfl⟩:=zbw.1 q1; obtain ⟨_,rfl⟩:=zbw.1 q2; exact h1 j hj q3
   · refine ⟨_,start _ h3,⟨fun h=>by simp at h,fun h=>?_⟩,fun h=>by simp at h⟩; exact absurd (fun q3=>h.2.2 j _ _ (zaA hj) (zaA (by omega)) q3) h1
 · intro _; refine zlj _ _ _ _ ?_; rw [← map_rep] at second; simp (disch:=omega) only [zan,zaQ,zao,zbb,za2,second]
 · intro i hi _ hn; have hi2:i < a.length:=by omega
   refine ⟨_,rfl,zlj _ _ _ _ ?_⟩; rcases kind2 (hP.2.2.2.1 _ (zbd hi)) with h1 | h1
   · exact absurd (fun h=>absurd h1 h) hn
   · have h2:¬ (-2≤a[i]∧a[i] < p.Parts[i].Options):=fun h=>hn (fun _=>h)
     have hop:2≤p.Parts[i].Options:=by have:=(hP.2.2.2.1 _ (zbd hi)); unfold OkPart at this; omega
     have h3:a[i]≠-1:=fun h=>h2 (by omega)
     have h4:a[i]≠-2:=fun h=>h2 (by omega)
     by_cases h5:a[i] < 0
     · simp (disch:=omega) [zaD,zao,h1,show (a[i] != -1)=true by simpa using h3,show (a[i] != -2)=true by simpa using h4]; rfl
     · simp (disch:=omega) [zaD,zaQ,zao,h1,show (a[i] != -1)=true by simpa using h3,show (a[i] != -2)=true by simpa using h4]; rfl
 · intro i hi y hg hk'; have hi2:i < a.length:=by omega
   refine zlj _ _ _ _ ?_; rcases kind2 (hP.2.2.2.1 _ (zbd hi)) with h1 | h1
   · simp (disch:=omega) [zaD,zao,h1,w64_id,hk']
   · have h2:=hg (by omega); by_cases h3:a[i]=-1
     · simp (disch:=omega) [zaD,zao,h1,w64_id,h3,hk']
     · by_cases h4:a[i]=-2
       · simp (disch:=omega) [zaD,zao,h1,w64_id,h4,hk']
       · simp (disch:=omega) [zaD,zaQ,zao,h1,show (a[i] != -1)=true by simpa using h3,show (a[i] != -2)=true by simpa using h4,w64_id,hk']
def zA8:zaH:=⟨0,0,0,0,0,[],[]⟩
def ixR:Option (Nat×zaG)→Int×Bool
 | some (i,_)=>((i:Int),true)
 | none=>(0,false)
def scR:Option zaH→zaH×Bool
 | some x=>(x,true)
 | none=>(zA8,false)
theorem zsw (s:zay) (n:Int) (hl:s.Scripts.length≤1000000):cw zfH [.agg (zas s),I n] []=some (zgi (scR (zfW s.Scripts n))):=by
 refine zuk s n ?_; have key:=zfV s.Scripts (fun x=>x.Number == n) (fun i=>zf5 s n i) (fun o=>zgi (scR (o.map (·.2)))) ?_ ?_ ?_
 · exact key
 · exact ziR _ _ _ (by simp (disch:=omega) [zaQ] <;> rfl)
 · intro i hi h; refine ziR _ _ _ ?_; simp (disch:=omega) [zaD,zao,h]; rfl
 · intro i hi y h hk; refine ziR _ _ _ ?_; simp (disch:=omega) [zaD,zao,w64_id,h,hk]
theorem zyw (l:List zaH) (n:Int) (hl:l.length≤1000000):cw znA [.sl 7 (List.map zaO l),I n] []=some (zgi (scR (zfW l n))):=by
 refine zyE l n ?_; have key:=zfV l (fun x=>x.Number == n) (fun i=>ziB l n i) (fun o=>zgi (scR (o.map (·.2)))) ?_ ?_ ?_
 · exact key
 · exact zl1 _ _ _ (by simp (disch:=omega) [zaQ] <;> rfl)
 · intro i hi h; refine zl1 _ _ _ ?_; simp (disch:=omega) [zaD,zao,h]; rfl
 · intro i hi y h hk; refine zl1 _ _ _ ?_; simp (disch:=omega) [zaD,zao,w64_id,h,hk]
theorem zt6 (s:zay) (x:zaH) (hl:s.Papers.length≤1000000):cw zf0 [.agg (zas s),.agg (zaO x)] []=some (zi4 (ixR (zfS s.Papers x))):=by
 refine zvt s x ?_; have key:=zfV s.Papers (fun p=>p.Code == x.Paper && p.Variant == x.Variant) (fun i=>zff s x i) (fun o=>zi4 (ixR o)) ?_ ?_ ?_
 · exact key
 · exact zjz _ _ _ (by simp (disch:=omega) [zaQ] <;> rfl)
 · intro i hi h; refine zjz _ _ _ ?_; rw [zbS] at h; simp (disch:=omega) [zaD,zao,h.1,h.2]; rfl
 · intro i hi y h hk; refine zjz _ _ _ ?_
   cases h1:(s.Papers[i].Code == x.Paper) with
   | false=>simp (disch:=omega) [zaD,zao,w64_id,h1,hk]
   | true=>rw [h1,zij] at h; simp (disch:=omega) [zaD,zao,w64_id,h1,h,hk]
theorem c_PaperOf (s:zay) (n:Int) (h1:s.Scripts.length≤1000000) (h2:s.Papers.length≤1000000):cw zlf [.agg (zas s),I n] []=some (zi4 (ixR (znK s n))):=by
 refine zvs s n ?_; rw [zsw s n h1,zgQ]; unfold znK
 cases zfW s.Scripts n with
 | none=>rfl
 | some x=>simp only [scR,zbA,zaq,zt6 s x h2,zl9,zaV]; rfl
theorem zAx (p:zaG) (m:List Int) (hl:p.Parts.length≤1000000) (h:zrh p m):cw zix [.agg (zaK p),.sl 1 (List.map zai m)] []=some (zaj true):=by
 obtain ⟨h1,h2⟩:=h; refine zsH p m ?_; simp only [zan,h1,bne_self_eq_false,zaq]; refine zdB p.Parts (fun i r=>zfz p m i=some (zaj true)) ?_ ?_
 · exact zlA _ _ _ (by simp (disch:=omega) [zaQ] <;> rfl)
 · intro i hi r hr ih; have hi2:i < m.length:=by omega
   have:=h2 i _ _ (zaA hi) (zaA hi2); refine zlA _ _ _ ?_; simp (disch:=omega) [zaD,zaQ,zao,w64_id,ih]
theorem zg7 {ps:List zaG} {x:zaH} {k:Nat} {p:zaG} (hk:zfS ps x=some (k,p)):ps[k]?=some p∧p.Code=x.Paper∧p.Variant=x.Variant:=by obtain ⟨h1,h2,_⟩:=fnd_at hk; simp only [zbS,beq_iff_eq] at h2; exact ⟨h1,h2⟩
theorem zAS {l:List zaH} (h:AscBy zaH.Number l) {x:zaH} (hx:x∈l):zfW l x.Number=some x:=by
 obtain ⟨i,hi,rfl⟩:=zlK.1 hx; unfold zfW
 rw [fnd_of (j:=i) (x:=l[i]) (zaA hi) (by simp) (fun k y hk hy=>by
  obtain ⟨hk',rfl⟩:=zbw.1 hy; have:=asc_lt h k i hi hk; simp only [beq_eq_false_iff_ne]
  omega)]
 rfl
theorem paperOf_at {s:zay} {n:Int} {k:Nat} {p:zaG} (hk:znK s n=some (k,p)):s.Papers[k]?=some p:=by
 unfold znK at hk
 cases hx:zfW s.Scripts n with
 | none=>simp [hx] at hk
 | some x=>rw [hx] at hk; exact (zg7 hk).1
section
variable {s:zay} (h:zdT s)
include h
theorem zdT.okPaper {k:Nat} {p:zaG} (hk:s.Papers[k]?=some p):zi9 p:=by have hlt:=(zbw.1 hk).1; have:=h.len; exact (h.schemes k p _ hk (zaA (by omega))).1
theorem zzH:cw zhT [.agg (zas s)] []=some (zaj true):=by
 have hp:=h.papers; have hl:=h.len; refine zrN s ?_; simp (disch:=omega) only [zan,zaQ,hl,bne_self_eq_false,zaq]; refine zdB s.Papers (fun i r=>zfc s i=some (zaj true)) ?_ ?_
 · exact zk6 _ _ (by simp (disch:=omega) [zaQ] <;> rfl)
 · intro i hi r hr ih; have hi2:i < s.Schemes.length:=by omega
   have hv:=h.schemes i _ _ (zaA hi) (zaA hi2); refine zk6 _ _ ?_; simp (disch:=omega) [zaD,zao,w64_id,zhQ _ _ (h.short _ (zbd hi2)),zbr hv,ih]
theorem zyy:cw zhp [.agg (zas s)] []=some (zaj true):=by
 have hp:=h.papers; have hl:=h.len; have hsl:=h.scripts.1; refine zq1 s ?_; refine zdB s.Scripts (fun i r=>zeS s i=some (zaj true)) ?_ ?_
 · exact zkz _ _ (by simp (disch:=omega) [zaQ] <;> rfl)
 · intro i hi r hr ih; obtain ⟨k,p,c,q1,q2,q3⟩:=h.script _ (zbd hi); have hpk:=(zg7 q1).1; obtain ⟨w,hw,hw1,hw2⟩:=zxy p c s.Scripts[i].Answers (h.short _ (zbU q2)); have hw0:w.2=0:=hw1.2 ⟨h.schemes k p c hpk q2,q3⟩; refine zkz _ _ ?_; simp (disch:=omega) [zaD,zao,w64_id,zt6 s _ (by omega),q1,ixR,hpk,q2,hw,hw0,ih]
theorem zAy:cw ziy [.agg (zas s)] []=some (zaj true):=by
 have hp:=h.papers; have hl:=h.seeds; have hsl:=h.scripts.1; refine zsI s ?_; simp (disch:=omega) only [zan,zaQ]; refine zdB s.Seeds (fun i r=>zfA s i=some (zaj true)) ?_ ?_
 · exact zlB _ _ (by simp (disch:=omega) [zaQ] <;> rfl)
 · intro i hi r hr ih; obtain ⟨k,p,q1,q2⟩:=h.seed _ (zbd hi); have hpk:=paperOf_at q1; have hpl:=(h.okPaper hpk).2.2.1
   have rest:zeL s i s.Seeds[i]=some (zaj true):=by refine zpc _ _ _ ?_; simp (disch:=omega) [zao,w64_id,c_PaperOf s _ (by omega) (by omega),q1,ixR,hpk,zAx _ _ (by omega) q2,ih]
   refine zlB _ _ ?_; by_cases h0:0 < i
   · have:=zrB.2 h.asc i hi h0; simp (disch:=omega) [zaD,zaQ,zao,w64_id,zfC h0,rest]
   · simp (disch:=omega) [zaD,zaQ,zao,rest]
theorem zqr:cw zgU [.agg (zas s)] []=some (zbi 0):=by obtain ⟨e1,h1,h2⟩:=zyv s.Markers h.short2; obtain ⟨e2,h3,h4⟩:=zrG s.Scripts; have g1:=h2.2 h.markers; have g2:=h4.2 h.scripts; subst g1 g2; refine zxK s ?_; simp only [h1,h3,za4,za4,zzH h,zyy h,zAy h,zmB _ h.monitor,zam,zam,zam,za4,bne_self_eq_false,zbA,zaq]; rfl
end
def DOk (d:zae):Prop:=0≤d.At∧d.L.length≤600
abbrev mD (d:zae):Mem:=[(1000,⟨2,zaf,[zar d],true⟩)]
theorem tmod_lt {a n:Int} (hn:0 < n):-n < a.tmod n∧a.tmod n < n:=by have h1:=Int.tmod_lt_of_pos a hn; refine ⟨?_,h1⟩; have h2:=Int.tmod_lt_of_pos (-a) hn; rw [Int.neg_tmod] at h2; omega
theorem c_Light (t:List Int):cw zpW [.sl 1 (List.map zai t)] []=some (zaj (decide ((t.length:Int)≤600))):=
 zAC t (by rw [zan]; rfl)
theorem c_Roll (t:List Int):cw zq5 [.sl 1 (List.map zai t)] []=some (zrc ⟨t,0⟩):=zBh t rfl
theorem zcg (d:zae) (n:Int) (hd:DOk d) (hn:n≤4611686018427387904):∃ (r:Int) (d':zae),cw zaY [.loc 1000 2 0 0,I n] (mD d)=some (ziE (r,d'))∧0≤r∧(r < n∨r=0)∧DOk d':=by
 by_cases h1:(d.L.length:Int)≤d.At
 · refine ⟨0,d,zir d n ?_,by omega,.inr rfl,hd⟩; simp (disch:=omega) only [zan,zaD]; rfl
 by_cases h2:n < 1
 · refine ⟨0,d,zir d n ?_,by omega,.inr rfl,hd⟩; simp (disch:=omega) only [zan,zaD,zaQ]; rfl
 obtain ⟨ha,hl⟩:=hd; have hlt:d.At.toNat < d.L.length:=by omega
 have hb:=tmod_lt (a:=d.L[d.At.toNat]) (n:=n) (by omega); have hd':DOk ⟨d.L,d.At+1⟩:=⟨by show 0≤d.At+1; omega,hl⟩
 by_cases h3:(d.L[d.At.toNat]).tmod n < 0
 · refine ⟨(d.L[d.At.toNat]).tmod n+n,⟨d.L,d.At+1⟩,zir d n ?_,by omega,.inl (by omega),hd'⟩; simp (disch:=omega) [zaD,zaQ,zao,hlt,w64_id]; rfl
 · refine ⟨(d.L[d.At.toNat]).tmod n,⟨d.L,d.At+1⟩,zir d n ?_,by omega,.inl (by omega),hd'⟩; simp (disch:=omega) [zaD,zaQ,zao,hlt,w64_id]; rfl
theorem zrD (d:zae) (n:Int) (hd:DOk d) (hn:n≤4611686018427387904):∃ (r:Bool) (d':zae),cw zdN [.loc 1000 2 0 0,I n] (mD d)=some (zlX (r,d'))∧DOk d':=by obtain ⟨r,d',h,_,_,hd'⟩:=zcg d n hd hn; exact ⟨_,d',zwJ d n (by simp only [h,zaX]; rfl),hd'⟩
theorem c_Pick (d:zae) (l:List Int) (hd:DOk d) (hl:l≠[]) (hl2:l.length≤1000):∃ (r:Int) (d':zae),cw zfq [.loc 1000 2 0 0,.sl 1 (List.map zai l)] (mD d)=some (ziE (r,d'))∧r∈l∧DOk d':=by
 obtain ⟨r,d',h,h0,h1,hd'⟩:=zcg d l.length hd (by omega); have hpos:0 < l.length:=List.length_pos_iff.2 hl; have hlt:r.toNat < l.length:=by omega
 refine ⟨l[r.toNat],d',zwL d l ?_,zbd hlt,hd'⟩; simp (disch:=omega) only [zan,h,zaX,zao,zck,zaA hlt,zaV]; rfl
def DPaper (p:zaG):Prop:=p.Parts.length≤3∧1≤p.Parts.length∧(∀ x∈p.Parts,OkPart x∧x.Max≤6)∧∃ y,p.Parts[0]?=some y∧y.Kind=1∧3≤y.Max
theorem DPaper.ok {p:zaG} (h:DPaper p) (h1:0≤p.Code∧p.Code≤31) (h2:0≤p.Variant∧p.Variant < 4):zi9 p:=by obtain ⟨a,b,c,_⟩:=h; refine ⟨h1,h2,by omega,fun x hx=>(c x hx).1,?_⟩; have:=(zuM (fun x hx=>(c x hx).1)).2; omega
theorem zuZ (d:zae) (a b:Int) (hd:DOk d):∃ (p:zaG) (d':zae),cw zdv [.loc 1000 2 0 0,I a,I b] (mD d)=some (zlg (p,d'))∧p.Code=a∧p.Variant=b∧DPaper p∧DOk d':=by
 obtain ⟨n0,d0,e0,a0,b0,hd0⟩:=zcg d 4 hd (by omega); obtain ⟨n1,d1,e1,a1,b1,hd1⟩:=zcg d0 3 hd0 (by omega); by_cases h1:0 < n1
 · obtain ⟨n2,d2,e2,a2,b2,hd2⟩:=zcg d1 2 hd1 (by omega); obtain ⟨n3,d3,e3,a3,b3,hd3⟩:=zcg d2 4 hd2 (by omega); obtain ⟨n4,d4,e4,a4,b4,hd4⟩:=zcg d3 2 hd3 (by omega)
   have start:∀ y,zhr a b (n0,d0) (n2,d2) (n3,d3)=some y→cw zdv [.loc 1000 2 0 0,I a,I b] (mD d)=some y:=by intro y hy; refine zoP d a b ?_; simp (disch:=omega) only [e0,e1,e2,e3,zaX,zaD,zao,zbb,hy]
   by_cases h4:0 < n4
   · obtain ⟨n5,d5,e5,a5,b5,hd5⟩:=zcg d4 4 hd4 (by omega); refine ⟨⟨a,b,[⟨1,3+n0,0,0,0,0⟩,⟨2,1+n2,0,0,4,n3⟩,⟨1,2+n5,0,0,0,0⟩]⟩,d5,start _ (zlz _ _ _ _ _ ?_),rfl,rfl,⟨by simp,by simp,?_,_,rfl,rfl,by dsimp only; omega⟩,hd5⟩
     · simp (disch:=omega) only [e4,e5,zaX,zaD,zao,zbb,w64_id]; rfl
     · intro x hx; simp only [za6,zc4,or_false] at hx; rcases hx with rfl | rfl | rfl <;> exact ⟨by unfold OkPart; dsimp only; omega,by dsimp only; omega⟩
   · refine ⟨⟨a,b,[⟨1,3+n0,0,0,0,0⟩,⟨2,1+n2,0,0,4,n3⟩]⟩,d4,start _ (zlz _ _ _ _ _ ?_),rfl,rfl,⟨by simp,by simp,?_,_,rfl,rfl,by dsimp only; omega⟩,hd4⟩
     · simp (disch:=omega) only [e4,zaX,zaQ,zao,zbb,w64_id]; rfl
     · intro x hx; simp only [za6,zc4,or_false] at hx; rcases hx with rfl | rfl <;> exact ⟨by unfold OkPart; dsimp only; omega,by dsimp only; omega⟩
 · obtain ⟨n4,d4,e4,a4,b4,hd4⟩:=zcg d1 2 hd1 (by omega)
   have start:∀ y,zgm a b (n0,d0) (n1,d1)=some y→cw zdv [.loc 1000 2 0 0,I a,I b] (mD d)=some y:=by intro y hy; refine zoP d a b ?_; simp (disch:=omega) only [e0,e1,zaX,zaQ,hy]
   by_cases h4:0 < n4
   · obtain ⟨n5,d5,e5,a5,b5,hd5⟩:=zcg d4 4 hd4 (by omega); refine ⟨⟨a,b,[⟨1,3+n0,0,0,0,0⟩,⟨1,2+n5,0,0,0,0⟩]⟩,d5,start _ (zkw _ _ _ _ ?_),rfl,rfl,⟨by simp,by simp,?_,_,rfl,rfl,by dsimp only; omega⟩,hd5⟩
     · simp (disch:=omega) only [e4,e5,zaX,zaD,zao,zbb,w64_id]; rfl
     · intro x hx; simp only [za6,zc4,or_false] at hx; rcases hx with rfl | rfl <;> exact ⟨by unfold OkPart; dsimp only; omega,by dsimp only; omega⟩
   · refine ⟨⟨a,b,[⟨1,3+n0,0,0,0,0⟩]⟩,d4,start _ (zkw _ _ _ _ ?_),rfl,rfl,⟨by simp,by simp,?_,_,rfl,rfl,by dsimp only; omega⟩,hd4⟩
     · simp (disch:=omega) only [e4,zaX,zaQ,zao,zbb,w64_id]; rfl
     · intro x hx; simp only [za6,zc4,or_false] at hx; subst hx; exact ⟨by unfold OkPart; dsimp only; omega,by dsimp only; omega⟩
theorem c_Scheme (d:zae) (p:zaG) (hd:DOk d) (hp:DPaper p) (hok:zi9 p):∃ (c:zbt) (d':zae),cw zj6 [.loc 1000 2 0 0,.agg (zaK p)] (mD d)=some (zkt (c,d'))∧zfU p c∧Short c∧DOk d':=by
 have hl:=hp.1; have hl2:=hp.2.1; obtain ⟨b,d0,e0,hd0⟩:=zrD d 6 hd (by omega)
 have good:∀ W:List Int,W.length=p.Parts.length→(∀ k∈W,0≤k∧k≤2)→zfU p ⟨List.replicate p.Parts.length [],W⟩∧Short ⟨List.replicate p.Parts.length [],W⟩:=by
  intro W hW hk; refine ⟨⟨hok,by simp,hW,fun j x ks k q1 q2 q3=>⟨?_,hk k (zbU q3)⟩⟩,?_⟩
  · have:=zbU q2; rw [zsf] at this; rw [this.2]; exact ⟨by simp,fun j hj=>by simp at hj⟩
  · intro ks hks; rw [zsf] at hks; rw [hks.2]; simp
 cases b with
 | true =>
   obtain ⟨n1,d1,e1,a1,b1,hd1⟩:=zcg d0 p.Parts.length hd0 (by omega); obtain ⟨n2,d2,e2,a2,b2,hd2⟩:=zcg d1 2 hd1 (by omega); have hlt:n1.toNat < p.Parts.length:=by omega
   obtain ⟨g1,g2⟩:=good ((List.replicate p.Parts.length 0).set n1.toNat (1+n2)) (by simp) (by
    intro k hk; rcases aLiAs54 hk with h | h
    · rw [zsf] at h; omega
    · omega)
   refine ⟨_,d2,zog d p ?_,g1,g2,hd2⟩; have hlt':n1.toNat < (List.replicate p.Parts.length (0:Int)).length:=by simpa using hlt
   simp (disch:=omega) only [zan,zao,zbb,e0,e1,e2,zb1,zaX,zaE,za2,zl6,zbK,map_rep zai,zck,zaA hlt',zaV]; refine zql _ _ _ _ _ ?_; simp (disch:=omega) only [zan,zao,zbb,za2,zl6,zbK,zpC,zbM,w64_id]; rw [show List.take p.Parts.length (List.replicate p.Parts.length [AV.sl 1 []])=List.replicate p.Parts.length [AV.sl 1 []] from zcn (by simp),zcn (Nat.le_of_eq (by simp only [zpC,zl6]))]; rw [show List.replicate p.Parts.length [AV.sl 1 []]=List.map zcV (List.replicate p.Parts.length []) by simp [zcV],show List.replicate p.Parts.length [I 0]=List.map zai (List.replicate p.Parts.length 0) by simp [zai],show [I (1+n2)]=zai (1+n2) from rfl,zkq]; rfl
 | false =>
   obtain ⟨g1,g2⟩:=good (List.replicate p.Parts.length 0) (by simp) (by
    intro k hk
    rw [zsf] at hk; omega)
   refine ⟨_,d0,zog d p ?_,g1,g2,hd0⟩; simp (disch:=omega) only [zan,zao,zbb,e0,zb1,zaq,za2]; refine zo8 _ _ ?_; simp (disch:=omega) only [zan,zao,zbb,za2,zl6,zbK,zbM]; rw [show List.take p.Parts.length (List.replicate p.Parts.length [AV.sl 1 []])=List.replicate p.Parts.length [AV.sl 1 []] from zcn (by simp),zcn (Nat.le_of_eq (by simp only [zpC,zl6]))]; rw [show List.replicate p.Parts.length [AV.sl 1 []]=List.map zcV (List.replicate p.Parts.length []) by simp [zcV],show List.replicate p.Parts.length [I 0]=List.map zai (List.replicate p.Parts.length 0) by simp [zai]]; rfl
def zkB (ps:List zaG):Prop:=1≤ps.length∧ps.length≤3∧(∀ p∈ps,DPaper p∧(0≤p.Code∧p.Code≤1)∧(0≤p.Variant∧p.Variant≤1))∧∀ p∈ps,∀ q∈ps,p.Code=q.Code→p.Variant=q.Variant→p=q
def zqp (ps:List zaG) (cs:List zbt):Prop:=∀ (j:Nat) (p:zaG) (c:zbt),ps[j]?=some p→cs[j]?=some c→zfU p c∧Short c
theorem c_Papers (d:zae) (hd:DOk d):∃ (ps:List zaG) (cs:List zbt) (d':zae),cw zfG [.loc 1000 2 0 0] (mD d)=some (zfJ ((ps,cs),d'))∧zkB ps∧cs.length=ps.length∧zqp ps cs∧DOk d':=by
 have loop:∀ (ps:List zaG),zkB ps→∀ (d:zae),DOk d→∃ (cs:List zbt) (d':zae),zcQ (List.map zaK ps) (List.map zb0 []) d 0=some (zfJ ((ps,cs),d'))∧cs.length=ps.length∧zqp ps cs∧DOk d':=by
  intro ps hps d hd; have hpl:=hps.2.1; refine zdB ps (fun i r=>∀ (cs:List zbt) (d:zae),(cs.length:Int)=i→zqp ps cs→DOk d→∃ (cs':List zbt) (d':zae),zcQ (List.map zaK ps) (List.map zb0 cs) d i=some (zfJ ((ps,cs'),d'))∧cs'.length=ps.length∧zqp ps cs'∧DOk d') ?_ ?_ [] d (by simp) (by intro j p c _ h; simp at h) hd
  · intro cs d hcs hok hd; refine ⟨cs,d,zmW _ _ _ _ ?_,by omega,hok,hd⟩; simp (disch:=omega) only [zan,zaQ,zbK,zbM,zbb]; rw [zcn (by simp),zcn (by simp)]; rfl
  · intro i hi r hr ih cs d hcs hok hd; obtain ⟨g1,g2,g3⟩:=hps.2.2.1 _ (zbd hi); obtain ⟨c,d1,e1,o1,o2,hd1⟩:=c_Scheme d ps[i] hd g1 (g1.ok (by omega) (by omega))
    obtain ⟨cs',d',e2,o3,o4,hd'⟩:=ih (cs++[c]) d1 (by simp; omega) (by
     intro j p c' hp hc; by_cases hj:j < cs.length
     · rw [znf hj] at hc; exact hok j p c' hp hc
     · have hjl:=(zbw.1 hc).1; simp at hjl; have hji:j=cs.length:=by omega
       subst hji; simp at hc; subst hc; have:i=cs.length:=by omega
       subst this; rw [zaA hi] at hp; injection hp with hp; subst hp
       exact ⟨o1,o2⟩) hd1
    refine ⟨cs',d',zmW _ _ _ _ ?_,o3,o4,hd'⟩; simp (disch:=omega) only [zan,zaD,zao,zbb,zbK,za2,zfF,zaA hi,zaV,e1,zqR,w64_id,zcH,e2]
 obtain ⟨p0,d0,e0,a0,b0,g0,hd0⟩:=zuZ d 0 0 hd; obtain ⟨b,d1,e1,hd1⟩:=zrD d0 2 hd0 (by omega)
 cases b with
 | true =>
   obtain ⟨p2,d2,e2,a2,b2,g2,hd2⟩:=zuZ d1 0 1 hd1; obtain ⟨b',d3,e3,hd3⟩:=zrD d2 2 hd2 (by omega)
   have start:∀ y,zgH (p0,d0) (p2,d2)=some y→cw zfG [.loc 1000 2 0 0] (mD d)=some y:=by intro y hy; refine zof d ?_; simp (disch:=omega) only [e0,e1,e2,zfO,zb1,zaE,zao,zbb,hy]
   cases b' with
   | true =>
     obtain ⟨p4,d4,e4,a4,b4,g4,hd4⟩:=zuZ d3 1 0 hd3
     obtain ⟨cs,d',e5,o3,o4,hd'⟩:=loop [p0,p2,p4] (by
      refine ⟨by simp,by simp,?_,?_⟩ <;> simp only [za6,zc4,or_false]
      · rintro p (rfl | rfl | rfl)
        · exact ⟨g0,by omega,by omega⟩
        · exact ⟨g2,by omega,by omega⟩
        · exact ⟨g4,by omega,by omega⟩
      · rintro p (rfl | rfl | rfl) q (rfl | rfl | rfl) h1 h2 <;> first | rfl | omega) d4 hd4
     refine ⟨[p0,p2,p4],cs,d',start _ (zk5 _ _ ?_),?_,o3,o4,hd'⟩
     · simp (disch:=omega) only [e3,e4,zfO,zb1,zaE,zao,zbb]; exact e5
     · refine ⟨by simp,by simp,?_,?_⟩ <;> simp only [za6,zc4,or_false]
       · rintro p (rfl | rfl | rfl)
         · exact ⟨g0,by omega,by omega⟩
         · exact ⟨g2,by omega,by omega⟩
         · exact ⟨g4,by omega,by omega⟩
       · rintro p (rfl | rfl | rfl) q (rfl | rfl | rfl) h1 h2 <;> first | rfl | omega
   | false =>
     have hP:zkB [p0,p2]:=by
      refine ⟨by simp,by simp,?_,?_⟩ <;> simp only [za6,zc4,or_false]
      · rintro p (rfl | rfl)
        · exact ⟨g0,by omega,by omega⟩
        · exact ⟨g2,by omega,by omega⟩
      · rintro p (rfl | rfl) q (rfl | rfl) h1 h2 <;> first | rfl | omega
     obtain ⟨cs,d',e5,o3,o4,hd'⟩:=loop [p0,p2] hP d3 hd3; refine ⟨[p0,p2],cs,d',start _ (zk5 _ _ ?_),hP,o3,o4,hd'⟩; simp (disch:=omega) only [e3,zb1,zaq]; exact e5
 | false =>
   obtain ⟨b',d3,e3,hd3⟩:=zrD d1 2 hd1 (by omega)
   have start:∀ y,zf4 (p0,d0) (false,d1)=some y→cw zfG [.loc 1000 2 0 0] (mD d)=some y:=by intro y hy; refine zof d ?_; simp (disch:=omega) only [e0,e1,zfO,zb1,zaq,zao,zbb,hy]
   cases b' with
   | true =>
     obtain ⟨p4,d4,e4,a4,b4,g4,hd4⟩:=zuZ d3 1 0 hd3
     have hP:zkB [p0,p4]:=by
      refine ⟨by simp,by simp,?_,?_⟩ <;> simp only [za6,zc4,or_false]
      · rintro p (rfl | rfl)
        · exact ⟨g0,by omega,by omega⟩
        · exact ⟨g4,by omega,by omega⟩
      · rintro p (rfl | rfl) q (rfl | rfl) h1 h2 <;> first | rfl | omega
     obtain ⟨cs,d',e5,o3,o4,hd'⟩:=loop [p0,p4] hP d4 hd4; refine ⟨[p0,p4],cs,d',start _ (zjO _ _ ?_),hP,o3,o4,hd'⟩; simp (disch:=omega) only [e3,e4,zfO,zb1,zaE,zao,zbb]; exact e5
   | false =>
     have hP:zkB [p0]:=by
      refine ⟨by simp,by simp,?_,?_⟩ <;> simp only [za6,zc4,or_false]
      · rintro p rfl
        exact ⟨g0,by omega,by omega⟩
      · rintro p rfl q rfl h1 h2; rfl
     obtain ⟨cs,d',e5,o3,o4,hd'⟩:=loop [p0] hP d3 hd3; refine ⟨[p0],cs,d',start _ (zjO _ _ ?_),hP,o3,o4,hd'⟩; simp (disch:=omega) only [e3,zb1,zaq]; exact e5
def DMarkers (l:List zaZ):Prop:=2≤l.length∧l.length≤5∧zn3 l∧(∀ m∈l,m.Papers.length≤2)∧∀ m∈l,m.ID≤15
theorem c_Markers (d:zae) (hd:DOk d):∃ (l:List zaZ) (d':zae),cw zjs [.loc 1000 2 0 0] (mD d)=some (zgA (l,d'))∧DMarkers l∧DOk d':=by
 have asc1:∀ {l:List zaZ} {m:zaZ},AscBy zaZ.ID l→(∀ x∈l,x.ID < m.ID)→AscBy zaZ.ID (l++[m]):=by
  intro l m h1 h2 j hj; simp at hj; by_cases h:j+1 < l.length
  · rw [zng (by omega),zng h]; exact h1 j h
  · have hj':j+1=l.length:=by omega
    rw [zng (by omega),List.getElem_append_right (by omega)]; simpa using h2 _ (zbd (by omega))
 have loop:∀ (k:Nat) (l:List zaZ) (d:zae) (id:Int),DOk d→0≤id→id≤3*l.length→l.length+k≤5→(∀ m∈l,zie m∧AscBy _root_.id m.Papers)→AscBy zaZ.ID l→(∀ m∈l,m.ID≤id)→(∀ m∈l,m.Papers.length≤2)→∃ (l':List zaZ) (d':zae),zfR (List.map zaU l) d id k=some (zgA (l',d'))∧(l'.length=l.length+k∧(∀ m∈l',zie m∧AscBy _root_.id m.Papers)∧AscBy zaZ.ID l'∧(∀ m∈l',m.Papers.length≤2)∧∀ m∈l',m.ID≤15)∧DOk d':=by
  intro k
  induction k with
  | zero=>intro l d id hd h0 h1 h2 h3 h4 h5 h6; refine ⟨l,d,zms _ _ _ _ ?_,⟨rfl,h3,h4,h6,fun m hm=>by have:=h5 m hm; omega⟩,hd⟩; simp (disch:=omega) only [zaQ,zbb]; rfl
  | succ k ih =>
    intro l d id hd h0 h1 h2 h3 h4 h5 h6; obtain ⟨n0,d0,e0,a0,b0,hd0⟩:=zcg d 3 hd (by omega); obtain ⟨n1,d1,e1,a1,hd1⟩:=c_Pick d0 [-1,-1,1,2,3] hd0 (by simp) (by simp); obtain ⟨n2,d2,e2,a2,hd2⟩:=c_Pick d1 [1,1,1,2,3] hd1 (by simp) (by simp); obtain ⟨n3,d3,e3,a3,hd3⟩:=c_Pick d2 [3,2,6,0,1] hd2 (by simp) (by simp); obtain ⟨n4,d4,e4,a4,b4,hd4⟩:=zcg d3 4 hd3 (by omega); have hlt:n4.toNat < ([[0,1],[0],[1],[0,1]]:List (List Int)).length:=by simp; omega
    have hpapers:∀ q∈([[0,1],[0],[1],[0,1]]:List (List Int)),(∀ n∈q,0≤n∧n≤31)∧AscBy _root_.id q∧q.length≤2:=by
     intro q hq; simp only [za6,zc4,or_false] at hq
     have A:AscBy _root_.id ([0,1]:List Int):=fun j hj=>by
      simp at hj; have:j=0:=by omega
      subst this; show (0:Int) < 1; omega
     rcases hq with rfl | rfl | rfl | rfl
     · exact ⟨by simp,A,by simp⟩
     · exact ⟨by simp,fun j hj=>by simp at hj,by simp⟩
     · exact ⟨by simp,fun j hj=>by simp at hj,by simp⟩
     · exact ⟨by simp,A,by simp⟩
    obtain ⟨q1,q2,q3⟩:=hpapers _ (zbd hlt); simp only [za6,zc4,or_false] at a1 a2 a3
    obtain ⟨l',d',e5,o1,hd'⟩:=ih (l++[⟨id+(1+n0),n1,n2,n3,([[0,1],[0],[1],[0,1]]:List (List Int))[n4.toNat]⟩]) d4 (id+(1+n0)) hd4 (by omega) (by simp; omega) (by simp; omega)
     (by
      intro m hm; rcases zb6.1 hm with h | h
      · exact h3 m h
      · simp only [zdg] at h; subst h
        refine ⟨⟨?_,?_,?_,?_,q1⟩,q2⟩ <;> dsimp only <;> omega)
     (asc1 h4 (fun x hx=>by have:=h5 x hx; dsimp only; omega))
     (by
      intro m hm; rcases zb6.1 hm with h | h
      · have:=h5 m h; omega
      · simp only [zdg] at h; subst h
        dsimp only; omega)
     (by
      intro m hm; rcases zb6.1 hm with h | h
      · exact h6 m h
      · simp only [zdg] at h; subst h
        exact q3)
    refine ⟨l',d',zms _ _ _ _ ?_,⟨by have:=o1.1; simp at this; omega,o1.2⟩,hd'⟩; have e6:w64 (((k+1:Nat):Int) - 1)=(k:Int):=by rw [w6Q]; omega
    simp (disch:=omega) only [zaD,e0,e1,e2,e3,e4,zaX,zaX,zao,zbb,zan,w64_id,e6]; rw [show ([zcV [0,1],zcV [0],zcV [1],zcV [0,1]]:List (List AV))=List.map zcV [[0,1],[0],[1],[0,1]] from rfl,zzP,zaA hlt,zaV]; simp (disch:=omega) only [zao,zbb,zan,w64_id,zcH,e5]
 obtain ⟨n,d0,e0,a0,b0,hd0⟩:=zcg d 4 hd (by omega); obtain ⟨l',d',e1,⟨o1,o2,o3,o4,o5⟩,hd'⟩:=loop (2+n).toNat [] d0 0 hd0 (by omega) (by simp) (by simp; omega) (by simp) (fun j hj=>by simp at hj) (by simp) (by simp); simp at o1; refine ⟨l',d',ztC d ?_,⟨by omega,by omega,⟨by omega,o2,o3⟩,o4,o5⟩,hd'⟩; simp only [e0,zaX]; rw [w6Q]; rw [aLiAs44 (by omega)] at e1; exact e1
theorem asc_snoc {α:Type} {f:α→Int} {l:List α} {m:α} (h1:AscBy f l) (h2:∀ x∈l,f x < f m):AscBy f (l++[m]):=by
 intro j hj; simp at hj; by_cases h:j+1 < l.length
 · rw [zng (by omega),zng h]; exact h1 j h
 · have hj':j+1=l.length:=by omega
   rw [zng (by omega),List.getElem_append_right (by omega)]; simpa using h2 _ (zbd (by omega))
def zlJ (n:Int) (p:zaG) (x:zaH):Prop:=
 x.Paper=p.Code∧x.Variant=p.Variant∧x.Number=p.Code*10000+x.Candidate∧(1≤x.Candidate∧x.Candidate≤n)∧(1≤x.Centre∧x.Centre≤3)∧x.Pages.length=2∧(∀ y∈x.Pages,0≤y∧y≤1000000)∧OkAns p x.Answers
theorem c_Script (d:zae) (p:zaG) (c n:Int) (hd:DOk d) (hp:DPaper p) (h1:0≤p.Code∧p.Code≤31) (hc:1≤c∧c≤n) (hn:n≤9):∃ (x:zaH) (d':zae),cw zj7 [.loc 1000 2 0 0,.agg (zaK p),I c] (mD d)=some (zg8 (x,d'))∧zlJ n p x∧x.Candidate=c∧DOk d':=by
 have hl:=hp.1; obtain ⟨n0,d0,e0,a0,b0,hd0⟩:=zcg d 3 hd (by omega); obtain ⟨n1,d1,e1,a1,b1,hd1⟩:=zcg d0 3 hd0 (by omega); have loop:=zdB p.Parts (fun i r=>∀ (a:List Int) (d2:zae),(a.length:Int)=i→DOk d2→(∀ (j:Nat) (x:GPart) (v:Int),p.Parts[j]?=some x→a[j]?=some v→x.Kind≠1→-2≤v∧v < x.Options)→∃ (x:zaH) (d':zae),zeR d p c (n0,d0) (n1,d1) (List.map zai a) d2 i=some (zg8 (x,d'))∧zlJ n p x∧x.Candidate=c∧DOk d') ?_ ?_ [] d1 (by simp) hd1 (by intro j x v _ h; simp at h)
 · obtain ⟨x,d',e2,h⟩:=loop; refine ⟨x,d',zuh d p c ?_,h⟩; simp only [e0,e1,zaX]; exact e2
 · intro a d2 ha hd2 hok; refine ⟨⟨p.Code*10000+c,p.Code,c,1+n0,p.Variant,[100*c+p.Code,n1],a⟩,d2,ziQ _ _ _ _ _ _ _ _ ?_,?_,rfl,hd2⟩
   · simp (disch:=omega) only [zan,zaQ,zbK,zbM,zbb,w64_id]; rw [zcn (by simp),zcn (by simp)]; rfl
   · refine ⟨rfl,rfl,rfl,hc,by dsimp only; omega,rfl,?_,by dsimp only; omega,hok⟩; intro y hy; simp only [za6,zc4,or_false] at hy; omega
 · intro i hi r hr ih a d2 ha hd2 hok; obtain ⟨hx,_⟩:=hp.2.2.1 _ (zbd hi)
   have snoc:∀ v:Int,(p.Parts[i].Kind≠1→-2≤v∧v < p.Parts[i].Options)→∀ (j:Nat) (x:GPart) (w:Int),p.Parts[j]?=some x→(a++[v])[j]?=some w→x.Kind≠1→-2≤w∧w < x.Options:=by
    intro v hv j x w hj hw; by_cases hja:j < a.length
    · rw [znf hja] at hw; exact hok j x w hj hw
    · have:=(zbw.1 hw).1; simp at this; have hji:j=a.length:=by omega
      subst hji; simp at hw; subst hw; have:i=a.length:=by omega
      subst this; rw [zaA hi] at hj; injection hj with hj; subst hj; exact hv
   rcases kind2 hx with hk | hk
   · obtain ⟨x,d',e2,h⟩:=ih (a++[-1]) d2 (by simp; omega) hd2 (snoc _ (fun h=>absurd hk h)); refine ⟨x,d',ziQ _ _ _ _ _ _ _ _ ?_,h⟩; simp (disch:=omega) only [zan,zaD,zao,zbb,za2,zen,zaA hi,zaV,show (p.Parts[i].Kind == 2)=false by rw [hk]; rfl,zaq,w64_id,zcH zai,e2]
   · obtain ⟨v,d3,e3,hv,hd3⟩:=c_Pick d2 [p.Parts[i].Key,0,1,-1,-2] hd2 (by simp) (by simp)
     have hv':-2≤v∧v < p.Parts[i].Options:=by unfold OkPart at hx; simp only [za6,zc4,or_false] at hv; omega
     obtain ⟨x,d',e2,h⟩:=ih (a++[v]) d3 (by simp; omega) hd3 (snoc _ (fun _=>hv')); refine ⟨x,d',ziQ _ _ _ _ _ _ _ _ ?_,h⟩; simp (disch:=omega) only [zan,zaD,zao,zbb,za2,zen,zaA hi,zaV,show (p.Parts[i].Kind == 2)=true by rw [hk]; rfl,zaE,e3,zaX,w64_id,zcH zai,e2]
def zr9 (n:Int) (ps:List zaG) (l:List zaH):Prop:=(∀ x∈l,∃ p∈ps,zlJ n p x)∧AscBy zaH.Number l∧(l.length:Int)≤2*n
theorem c_Scripts (d:zae) (ps:List zaG) (n:Int) (hd:DOk d) (hps:zkB ps) (hn:0≤n∧n≤9):∃ (l:List zaH) (d':zae),cw zju [.loc 1000 2 0 0,.sl 3 (List.map zaK ps),I n] (mD d)=some (zgB (l,d'))∧zr9 n ps l∧DOk d':=by
 have hpl:=hps.2.1
 let Inv:Int→List zaH→Prop:=fun code l=>(∀ x∈l,(∃ p∈ps,zlJ n p x)∧x.Number < code*10000)∧AscBy zaH.Number l∧(l.length:Int)≤code*n
 let Res:Option (AV×Mem)→Prop:=fun o=>∃ (l:List zaH) (d':zae),o=some (zgB (l,d'))∧zr9 n ps l∧DOk d'
 have stage2:∀ (out:List zaH) (d:zae),Inv 2 out→DOk d→Res (zc9 ps n (List.map zaO out) d 2):=by intro out d hi hd; refine ⟨out,d,zmt _ _ _ _ _ ?_,⟨fun x hx=>(hi.1 x hx).1,hi.2.1,hi.2.2⟩,hd⟩; simp (disch:=omega) only [zaQ,zbb]; rfl
 have step:∀ (code:Int),0≤code→code≤1→(∀ (out:List zaH) (d:zae),Inv (code+1) out→DOk d→Res (zc9 ps n (List.map zaO out) d (code+1)))→∀ (out:List zaH) (d:zae),Inv code out→DOk d→Res (zc9 ps n (List.map zaO out) d code):=by
  intro code hc0 hc1 next out d hi hd
  have third:∀ (l:List zaG),(∀ p∈l,p∈ps∧p.Code=code)→l.length≤3→∀ (m:Nat) (c:Int) (out:List zaH) (d:zae),c+m=n+1→1≤c→(∀ x∈out,(∃ p∈ps,zlJ n p x)∧x.Number < code*10000+c)→AscBy zaH.Number out→(out.length:Int)≤code*n+(c - 1)→DOk d→Res (zeF ps n code (List.map zaK l) (List.map zaO out) d c):=by
   intro l hl hll m
   induction m with
   | zero =>
     intro c out d hc h1 g1 g2 g3 hd; obtain ⟨l',d',e1,h⟩:=next out d ⟨fun x hx=>⟨(g1 x hx).1,by have:=(g1 x hx).2; rw [Int.add_mul]; omega⟩,g2,by rw [Int.add_mul]; omega⟩ hd
     refine ⟨l',d',zfT _ _ _ _ _ _ _ ?_,h⟩; simp (disch:=omega) only [zaQ,w64_id,e1]
   | succ m ih =>
     intro c out d hc h1 g1 g2 g3 hd; have hcn:code*n≤9:=by rcases (by omega:code=0∨code=1) with h | h <;> rw [h] <;> omega
     have hol:out.length≤20:=by omega
     by_cases hlz:0 < l.length
     · obtain ⟨n0,d0,e0,a0,b0,hd0⟩:=zcg d 5 hd (by omega); by_cases h0:0 < n0
       · obtain ⟨n1,d1,e1,a1,b1,hd1⟩:=zcg d0 l.length hd0 (by omega); have hlt:n1.toNat < l.length:=by omega
         obtain ⟨hp1,hp2⟩:=hl _ (zbd hlt); obtain ⟨q1,q2,q3⟩:=hps.2.2.1 _ hp1; obtain ⟨x,d2,e2,hx,hxc,hd2⟩:=c_Script d1 l[n1.toNat] c n hd1 q1 (by omega) (by omega) hn.2; have hxn:=hx.2.2.1
         obtain ⟨l',d',e3,h⟩:=ih (c+1) (out++[x]) d2 (by omega) (by omega)
          (by
           intro y hy; rcases zb6.1 hy with hy | hy
           · exact ⟨(g1 y hy).1,by have:=(g1 y hy).2; omega⟩
           · simp only [zdg] at hy; subst hy
             exact ⟨⟨_,hp1,hx⟩,by rw [hxn,hp2,hxc]; omega⟩)
          (asc_snoc g2 (fun y hy=>by rw [hxn,hp2,hxc]; exact (g1 y hy).2))
          (by simp; omega) hd2
         refine ⟨l',d',zfT _ _ _ _ _ _ _ ?_,h⟩; simp (disch:=omega) only [zan,zaD,e0,zaX,e1,zao,zbb,zbK,zfF,zaA hlt,zaV,e2,zqS,w64_id,zcH zaO,e3]
       · obtain ⟨l',d',e3,h⟩:=ih (c+1) out d0 (by omega) (by omega) (fun y hy=>⟨(g1 y hy).1,by have:=(g1 y hy).2; omega⟩) g2 (by omega) hd0; refine ⟨l',d',zfT _ _ _ _ _ _ _ ?_,h⟩; simp (disch:=omega) only [zan,zaD,zaQ,e0,zaX,w64_id,e3]
     · obtain ⟨l',d',e1,h⟩:=next out d ⟨fun x hx=>⟨(g1 x hx).1,by have:=(g1 x hx).2; rw [Int.add_mul]; omega⟩,g2,by rw [Int.add_mul]; omega⟩ hd
       refine ⟨l',d',zfT _ _ _ _ _ _ _ ?_,h⟩; simp (disch:=omega) only [zan,zaD,zaQ,w64_id,e1]
  have second:=zdB ps (fun i r=>∀ l:List zaG,(∀ p∈l,p∈ps∧p.Code=code)→(l.length:Int)≤i→Res (zeE ps n (List.map zaO out) d code (List.map zaK l) i)) ?_ ?_ [] (by simp) (by simp)
  · obtain ⟨l',d',e1,h⟩:=second; refine ⟨l',d',zmt _ _ _ _ _ ?_,h⟩; simp (disch:=omega) only [zaD]; exact e1
  · intro l hl hll; obtain ⟨l',d',e1,h⟩:=third l hl (by omega) n.toNat 1 out d (by omega) (by omega) (fun x hx=>⟨(hi.1 x hx).1,by have:=(hi.1 x hx).2; omega⟩) hi.2.1 (by have:=hi.2.2; omega) hd; refine ⟨l',d',zh4 _ _ _ _ _ _ _ ?_,h⟩; simp (disch:=omega) only [zan,zaQ,e1]
  · intro i hi' r hr ih l hl hll; by_cases hcode:ps[i].Code=code
    · obtain ⟨l',d',e1,h⟩:=ih (l++[ps[i]]) (by
       intro p hp; rcases zb6.1 hp with hp | hp
       · exact hl p hp
       · simp only [zdg] at hp; subst hp
         exact ⟨zbd hi',hcode⟩) (by simp; omega)
      refine ⟨l',d',zh4 _ _ _ _ _ _ _ ?_,h⟩; simp (disch:=omega) only [zan,zaD,zao,zbb,za2,zfF,zaA hi',zaV,show (ps[i].Code == code)=true by simpa using hcode,zaE,w64_id,zcH zaK,e1]
    · obtain ⟨l',d',e1,h⟩:=ih l hl (by omega); refine ⟨l',d',zh4 _ _ _ _ _ _ _ ?_,h⟩; simp (disch:=omega) only [zan,zaD,zao,zbb,za2,zfF,zaA hi',zaV,show (ps[i].Code == code)=false by simpa using hcode,zaq,w64_id,e1]
 have stage1:=step 1 (by omega) (by omega) stage2; have stage0:=step 0 (by omega) (by omega) stage1; obtain ⟨l,d',e1,h⟩:=stage0 [] d ⟨by simp,fun j hj=>by simp at hj,by simp⟩ hd; exact ⟨l,d',ztE d ps n e1,h⟩
def zxt:zaG:=⟨0,0,[]⟩
theorem zsv (ps:List zaG) (x:zaH) (hl:ps.length≤1000000):cw zj8 [.sl 3 (List.map zaK ps),.agg (zaO x)] []=some (zmT (((zfS ps x).map (·.2)).getD zxt)):=by
 refine zAD ps x ?_; have key:=zfV ps (fun p=>p.Code == x.Paper && p.Variant == x.Variant) (fun i=>zhV ps x i) (fun o=>zmT ((o.map (·.2)).getD zxt)) ?_ ?_ ?_
 · exact key
 · exact znO _ _ _ (by simp (disch:=omega) [zaQ] <;> rfl)
 · intro i hi h; refine znO _ _ _ ?_; rw [zbS] at h; simp (disch:=omega) [zaD,zao,h.1,h.2]; rfl
 · intro i hi y h hk; refine znO _ _ _ ?_
   cases h1:(ps[i].Code == x.Paper) with
   | false=>simp (disch:=omega) [zaD,zao,w64_id,h1,hk]
   | true=>rw [h1,zij] at h; simp (disch:=omega) [zaD,zao,w64_id,h1,h,hk]
theorem c_Seed (d:zae) (ps:List zaG) (x:zaH) (k:Nat) (p:zaG) (hd:DOk d) (hps:ps.length≤1000000) (hk:zfS ps x=some (k,p)) (hp:DPaper p):∃ (y:GSeed) (d':zae),cw zlR [.loc 1000 2 0 0,.sl 3 (List.map zaK ps),.agg (zaO x)] (mD d)=some (ziF (y,d'))∧y.Script=x.Number∧zrh p y.Marks∧DOk d':=by
 have hl:=hp.1; have loop:=zdB p.Parts (fun i r=>∀ (a:List Int) (d2:zae),(a.length:Int)=i→DOk d2→(∀ (j:Nat) (x:GPart) (v:Int),p.Parts[j]?=some x→a[j]?=some v→0≤v∧v≤x.Max)→∃ (y:GSeed) (d':zae),zg4 x p (List.map zai a) d2 i=some (ziF (y,d'))∧y.Script=x.Number∧zrh p y.Marks∧DOk d') ?_ ?_ [] d (by simp) hd (by intro j x v _ h; simp at h)
 · obtain ⟨y,d',e2,h⟩:=loop; refine ⟨y,d',zwM d ps x ?_,h⟩; simp only [zsv ps x hps,hk,zio]; exact e2
 · intro a d2 ha hd2 hok; refine ⟨⟨x.Number,a⟩,d2,zoq _ _ _ _ _ ?_,rfl,⟨by dsimp only; omega,hok⟩,hd2⟩; simp (disch:=omega) only [zan,zaQ,zbK,zbM,zbb,w64_id]; rw [zcn (by simp)]; rfl
 · intro i hi r hr ih a d2 ha hd2 hok; obtain ⟨hx,hx2⟩:=hp.2.2.1 _ (zbd hi); have hm:=hx.1; obtain ⟨v,d3,e3,a3,b3,hd3⟩:=zcg d2 (p.Parts[i].Max+1) hd2 (by omega)
   obtain ⟨y,d',e2,h⟩:=ih (a++[v]) d3 (by simp; omega) hd3 (by
    intro j x w hj hw; by_cases hja:j < a.length
    · rw [znf hja] at hw; exact hok j x w hj hw
    · have:=(zbw.1 hw).1; simp at this; have hji:j=a.length:=by omega
      subst hji; simp at hw; subst hw; have:i=a.length:=by omega
      subst this; rw [zaA hi] at hj; injection hj with hj; subst hj
      omega)
   refine ⟨y,d',zoq _ _ _ _ _ ?_,h⟩; simp (disch:=omega) only [zan,zaD,zao,zbb,za2,zen,zaA hi,zaV,w64_id,e3,zaX,zcH zai,e2]
theorem c_Monitor (d:zae) (hd:DOk d):∃ (r:za7) (d':zae),cw zjt [.loc 1000 2 0 0] (mD d)=some (zjw (r,d'))∧OkMon r∧DOk d':=by obtain ⟨n0,d0,e0,a0,b0,hd0⟩:=zcg d 3 hd (by omega); obtain ⟨n1,d1,e1,a1,b1,hd1⟩:=zcg d0 2 hd0 (by omega); obtain ⟨n2,d2,e2,a2,b2,hd2⟩:=zcg d1 3 hd1 (by omega); obtain ⟨n3,d3,e3,a3,b3,hd3⟩:=zcg d2 (1+n0) hd2 (by omega); refine ⟨⟨n1,n2,1+n0,1+n3⟩,d3,ztD d ?_,by refine ⟨?_,?_,?_,?_⟩ <;> dsimp only <;> omega,hd3⟩; simp (disch:=omega) only [e0,e1,e2,zaX,w64_id,e3]; rfl
structure DSetup (s:zay):Prop where
 ok:zdT s
 papers:zkB s.Papers
 markers:DMarkers s.Markers
 scripts:zr9 4 s.Papers s.Scripts
theorem zs0 {ps:List zaG} (hps:zkB ps) {n:Int} {p:zaG} {x:zaH} (hp:p∈ps) (hx:zlJ n p x):∃ k,zfS ps x=some (k,p):=by
 unfold zfS
 cases hf:fnd (fun p=>p.Code == x.Paper && p.Variant == x.Variant) 0 ps with
 | none=>have:=znD.1 hf p hp; rw [hx.1,hx.2.1] at this; simp at this
 | some q=>obtain ⟨k,p'⟩:=q; obtain ⟨h1,h2,_⟩:=fnd_at hf; simp only [zbS,beq_iff_eq] at h2; have:=hps.2.2.2 p' (zbU h1) p hp (by rw [h2.1,hx.1]) (by rw [h2.2,hx.2.1]); rw [this]; exact ⟨k,rfl⟩
theorem scripts_ok {n:Int} (hn:n≤9) {ps:List zaG} (hps:zkB ps) {l:List zaH} (h:zr9 n ps l):zn4 l:=by refine ⟨by have:=h.2.2; omega,fun x hx=>?_,h.2.1⟩; obtain ⟨p,hp,a,b,c,d,e,f,_⟩:=h.1 x hx; obtain ⟨q1,q2,q3⟩:=hps.2.2.1 p hp; exact ⟨by omega,by omega,by omega,by omega,by rw [c,a],by omega⟩
theorem c_Setup (d:zae) (hd:DOk d):∃ (s:zay) (d':zae),cw zld [.loc 1000 2 0 0] (mD d)=some (zhM (s,d'))∧DSetup s∧DOk d':=by
 obtain ⟨ps,cs,d0,e0,o0,p0,q0,hd0⟩:=c_Papers d hd; obtain ⟨ms,d1,e1,o1,hd1⟩:=c_Markers d0 hd0; obtain ⟨xs,d2,e2,o2,hd2⟩:=c_Scripts d1 ps 4 hd1 o0 (by omega); obtain ⟨mr,d3,e3,o3,hd3⟩:=c_Monitor d2 hd2; have hxl:=o2.2.2; have hpl:=o0.2.1; have hxs:=scripts_ok (by omega) o0 o2; have loop:=zdB xs (fun i r=>∀ (sd:List GSeed) (d4:zae),(sd.length:Int)≤i→DOk d4→AscBy GSeed.Script sd→(∀ y∈sd,∀ x∈r,y.Script < x.Number)→(∀ y∈sd,∃ x∈xs,∃ k p,y.Script=x.Number∧zfS ps x=some (k,p)∧zrh p y.Marks)→∃ (s:zay) (d':zae),zfe ((ps,cs),d0) (ms,d1) (xs,d2) (mr,d3) (List.map zbY sd) d4 i=some (zhM (s,d'))∧DSetup s∧DOk d') ?_ ?_ [] d3 (by simp) hd3 (fun j hj=>by simp at hj) (by simp) (by simp)
 · obtain ⟨s,d',e4,h⟩:=loop; refine ⟨s,d',zvq d ?_,h⟩; simp only [e0,e1,e2,e3,zqQ,zqd,zqf,zqe]; exact e4
 · intro sd d4 hl hd4 ha _ hs; refine ⟨⟨ms,xs,ps,cs,sd,mr⟩,d4,zjy _ _ _ _ _ _ _ ?_,?_,hd4⟩
   · simp (disch:=omega) only [zan,zaQ,zbK,zbM,zbb]; rw [zcn (by simp),zcn (by simp),zcn (by simp)]; rfl
   · refine ⟨⟨o1.2.2.1,hxs,by dsimp only; omega,p0,fun j p c hp hc=>(q0 j p c hp hc).1,fun x hx=>?_,by dsimp only; omega,ha,fun y hy=>?_,o3,fun c hc=>?_,fun m hm=>by have:=o1.2.2.2.1 m hm; omega⟩,o0,o1,o2⟩
     · obtain ⟨p,hp,hxp⟩:=o2.1 x hx; obtain ⟨k,hk⟩:=zs0 o0 hp hxp; have hpk:=(zg7 hk).1; have hlt:=(zbw.1 hpk).1; exact ⟨k,p,cs[k]'(show k < cs.length by omega),hk,zaA _,hxp.2.2.2.2.2.2.2⟩
     · obtain ⟨x,hx,k,p,h1,h2,h3⟩:=hs y hy; refine ⟨k,p,?_,h3⟩; unfold znK; dsimp only; rw [h1,zAS hxs.2.2 hx]; exact h2
     · obtain ⟨j,hj,rfl⟩:=zlK.1 hc; exact (q0 j _ _ (zaA (by simp only at hj; omega)) (zaA hj)).2
 · intro i hi r hr ih sd d4 hl hd4 ha hlt hs; obtain ⟨b,d5,e5,hd5⟩:=zrD d4 3 hd4 (by omega)
   have hrm:∀ x∈r,x∈xs∧xs[i].Number < x.Number:=by intro x hx; rw [← hr] at hx; obtain ⟨j,hj,rfl⟩:=zlK.1 hx; rw [List.getElem_drop]; exact ⟨zbd _,asc_lt hxs.2.2 i _ _ (by omega)⟩
   cases b with
   | false=>obtain ⟨s,d',e4,h⟩:=ih sd d5 (by omega) hd5 ha (fun y hy x hx=>hlt y hy x (by simp [hx])) hs; refine ⟨s,d',zjy _ _ _ _ _ _ _ ?_,h⟩; simp (disch:=omega) only [zan,zaD,e5,zb1,zaq,w64_id,e4]
   | true =>
     obtain ⟨p,hp,hxp⟩:=o2.1 _ (zbd hi); obtain ⟨k,hk⟩:=zs0 o0 hp hxp; obtain ⟨y,d6,e6,h1,h2,hd6⟩:=c_Seed d5 ps xs[i] k p hd5 (by omega) hk (o0.2.2.1 p hp).1
     obtain ⟨s,d',e4,h⟩:=ih (sd++[y]) d6 (by simp; omega) hd6 (asc_snoc ha (fun z hz=>by rw [h1]; exact hlt z hz _ (by simp)))
      (by
       intro z hz x hx; rcases zb6.1 hz with hz | hz
       · exact hlt z hz x (by simp [hx])
       · simp only [zdg] at hz; subst hz; rw [h1]
         exact (hrm x hx).2)
      (by
       intro z hz; rcases zb6.1 hz with hz | hz
       · exact hs z hz
       · simp only [zdg] at hz; subst hz
         exact ⟨_,zbd hi,k,p,h1,hk,h2⟩)
     refine ⟨s,d',zjy _ _ _ _ _ _ _ ?_,h⟩; simp (disch:=omega) only [zan,zaD,e5,zb1,zaE,zao,zbb,zbK,za2,zgL,zaA hi,zaV,e6,zsz,w64_id,zcH zbY,e4]
def Sat {β:Type} (Q:β→Prop) (o:Option β):Prop:=∃ y,o=some y∧Q y
theorem sat_of {β:Type} {Q:β→Prop} {a b:Option β} (h:∀ y,a=some y→b=some y) (ha:Sat Q a):Sat Q b:=by obtain ⟨y,e,hq⟩:=ha; exact ⟨y,h y e,hq⟩
theorem sat_some {β:Type} {Q:β→Prop} {y:β} (h:Q y):Sat Q (some y):=⟨y,rfl,h⟩
theorem ofScript {s:zay} (hs:DSetup s) {x:zaH} (hx:x∈s.Scripts):∃ k p,zfS s.Papers x=some (k,p)∧p∈s.Papers∧zlJ 4 p x∧DPaper p:=by obtain ⟨p,hp,h⟩:=hs.scripts.1 x hx; obtain ⟨k,hk⟩:=zs0 hs.papers hp h; exact ⟨k,p,hk,hp,h,(hs.papers.2.2.1 p hp).1⟩
theorem c_Mark (d:zae) (s:zay) (a b:Int) (hd:DOk d) (hs:DSetup s):∃ (e:zab) (d':zae),cw zlQ [.loc 1000 2 0 0,.agg (zas s),I a,I b] (mD d)=some (zlY (e,d'))∧e.Pages.length≤12∧DOk d':=by
 have hm:=hs.markers; have hsl:=hs.scripts.2.2; have hpl:=hs.papers.2.1; obtain ⟨n0,d0,e0,a0,b0,hd0⟩:=zcg d s.Markers.length hd (by have:=hm.2.1; omega); have hlt:n0.toNat < s.Markers.length:=by have:=hm.1; omega
 by_cases hz:s.Scripts.length=0
 · refine ⟨⟨⟨b,s.Markers[n0.toNat].ID,a⟩,0,0,0,0,0,[]⟩,d0,zlN _ _ _ _ ?_,by simp,hd0⟩; simp (disch:=omega) only [zan,e0,zaX,zao,zdS,zaA hlt,zaV,hz,Int.ofNat_zero,Int.natCast_zero,beq_self_eq_true,zaE,zbK,zbM,zbb]; rfl
 · obtain ⟨n1,d1,e1,a1,b1,hd1⟩:=zcg d0 s.Scripts.length hd0 (by omega); have hl1:n1.toNat < s.Scripts.length:=by omega
   obtain ⟨k,p,hk,hp,hx,hdp⟩:=ofScript hs (zbd hl1); have hpp:=hdp.1; have hpq:=hdp.2.1; have hpg:=hx.2.2.2.2.2.1; obtain ⟨n2,d2,e2,a2,b2,hd2⟩:=zcg d1 p.Parts.length hd1 (by omega); have hl2:n2.toNat < p.Parts.length:=by omega
   have hx2:=(hdp.2.2.1 _ (zbd hl2)).1.1; obtain ⟨n3,d3,e3,a3,b3,hd3⟩:=zcg d2 (p.Parts[n2.toNat].Max+2) hd2 (by omega); obtain ⟨v,d4,e4,hd4⟩:=zrD d3 12 hd3 (by omega); have hz':((s.Scripts.length:Int) == 0)=false:=by simp; intro h; exact hz (by simpa using h)
   cases v with
   | true=>refine ⟨⟨⟨b,s.Markers[n0.toNat].ID,a⟩,0,s.Scripts[n1.toNat].Number,n2,n3 - 1,0,[]⟩,d4,zlN _ _ _ _ ?_,by simp,hd4⟩; simp (disch:=omega) only [zan,e0,zaX,zao,zdS,zaA hlt,zaV,hz',zaq,e1,zgL,zaA hl1,zsv s.Papers _ (show s.Papers.length≤1000000 by omega),hk,zc6,zfi,zio,e2,zen,zaA hl2,w64_id,e3,e4,zb1,zaE]; exact zr5 _ _ _ _ _ _ _ (by simp (disch:=omega) only [zbK,zbM,zbb,w64_id]; rfl)
   | false =>
     refine ⟨⟨⟨b,s.Markers[n0.toNat].ID,a⟩,0,s.Scripts[n1.toNat].Number,n2,n3 - 1,0,s.Scripts[n1.toNat].Pages⟩,d4,zlN _ _ _ _ ?_,by dsimp only; omega,hd4⟩; simp (disch:=omega) only [zan,e0,zaX,zao,zdS,zaA hlt,zaV,hz',zaq,e1,zgL,zaA hl1,zsv s.Papers _ (show s.Papers.length≤1000000 by omega),hk,zc6,zfi,zio,e2,zen,zaA hl2,w64_id,e3,e4,zb1,zaq]
     exact zqk _ _ _ _ _ _ _ (by
      simp (disch:=omega) only [zbK,zan,zbM,zbb,w64_id]; rw [zcn (by simp)]
      rfl)
set_option maxRecDepth 20000 in
theorem c_Events (d:zae) (s:zay) (n:Int) (hd:DOk d) (hs:DSetup s) (hn:0≤n∧n≤50):∃ (l:List zab) (d':zae),cw zj5 [.loc 1000 2 0 0,.agg (zas s),I n] (mD d)=some (zdP (l,d'))∧(l.length:Int)≤n∧(∀ e∈l,e.Pages.length≤12)∧DOk d':=by
 have hm:=hs.markers; have hm1:=hm.1; have hm2:=hm.2.1; have hsl:=hs.scripts.2.2
 let Q:AV×Mem→Prop:=fun y=>∃ (l:List zab) (d':zae),y=zdP (l,d')∧(l.length:Int)≤n∧(∀ e∈l,e.Pages.length≤12)∧DOk d'
 have loop:∀ (m:Nat) (i:Int) (out:List zab) (d:zae),i+m=n→0≤i→(out.length:Int)≤i→(∀ e∈out,e.Pages.length≤12)→DOk d→Sat Q (zbT s n (List.map zaa out) d i):=by
  intro m
  induction m with
  | zero=>intro i out d hi h0 hl hp hd; refine sat_of (fun y=>zmV _ _ _ _ _) ?_; simp (disch:=omega) only [zaQ,zbb]; exact sat_some ⟨out,d,rfl,by omega,hp,hd⟩
  | succ m ih =>
    intro i out d hi h0 hl hp hd; have stay:∀ d',DOk d'→Sat Q (zbT s n (List.map zaa out) d' (i+1)):=fun d' hd'=>ih (i+1) out d' (by omega) (by omega) (by omega) hp hd'
    have more:∀ e d',e.Pages.length≤12→DOk d'→Sat Q (zbT s n (List.map zaa (out++[e])) d' (i+1)):=fun e d' he hd' =>
     ih (i+1) (out++[e]) d' (by omega) (by omega) (by simp; omega) (by
      intro x hx; rcases zb6.1 hx with hx | hx
      · exact hp x hx
      · simp only [zdg] at hx
        exact hx▸he) hd'
    obtain ⟨n0,d0,e0,a0,b0,hd0⟩:=zcg d 20 hd (by omega); obtain ⟨n1,d1,e1,a1,b1,hd1⟩:=zcg d0 14 hd0 (by omega); refine sat_of (fun y=>zmV _ _ _ _ _) ?_; by_cases c0:n1=0
    · obtain ⟨n2,d2,e2,a2,b2,hd2⟩:=zcg d1 s.Markers.length hd1 (by omega); have hlt:n2.toNat < s.Markers.length:=by omega
      simp only [eq_self,zbb]; simp (disch:=omega) only [zan,zaD,e0,zaX,e1,show (n1 == 0)=true by simpa using c0,zaE,e2,zao,zdS,zaA hlt,zaV,zbb,w64_id]; simp only [zcH zaa]; exact more _ _ (by simp) hd2
    · by_cases c1:n1=1
      · by_cases hz:0 < s.Scripts.length
        · obtain ⟨n2,d2,e2,a2,b2,hd2⟩:=zcg d1 s.Scripts.length hd1 (by omega); have hlt:n2.toNat < s.Scripts.length:=by omega
          obtain ⟨n3,d3,e3,a3,b3,hd3⟩:=zcg d2 3 hd2 (by omega); simp only [eq_self,zbb]; simp (disch:=omega) only [zan,zaD,e0,zaX,e1,show (n1 == 0)=false by simpa using c0,show (n1 == 1)=true by simpa using c1,zaE,zaq,e2,e3,zao,zgL,zaA hlt,zaV,zbb,w64_id]; simp only [zcH zaa]; exact more _ _ (by simp) hd3
        · simp (disch:=omega) only [zan,zaD,zaQ,e0,zaX,e1,show (n1 == 0)=false by simpa using c0,show (n1 == 1)=true by simpa using c1,zaE,zaq,w64_id]; exact stay _ hd1
      · by_cases c2:n1=2
        · by_cases hz:0 < out.length
          · obtain ⟨n2,d2,e2,a2,b2,hd2⟩:=zcg d1 out.length hd1 (by omega); have hlt:n2.toNat < out.length:=by omega
            simp only [eq_self,zbb]; simp (disch:=omega) only [zan,zaD,e0,zaX,e1,show (n1 == 0)=false by simpa using c0,show (n1 == 1)=false by simpa using c1,show (n1 == 2)=true by simpa using c2,zaE,zaq,e2,zao,zbK,zbH,zaA hlt,zaV,zbb,w64_id]; simp only [zcH zaa]; exact more _ _ (hp _ (zbd hlt)) hd2
          · simp (disch:=omega) only [zan,zaD,zaQ,e0,zaX,e1,show (n1 == 0)=false by simpa using c0,show (n1 == 1)=false by simpa using c1,show (n1 == 2)=true by simpa using c2,zaE,zaq,w64_id]; exact stay _ hd1
        · by_cases c3:n1=3
          · by_cases hz:0 < out.length
            · obtain ⟨n2,d2,e2,a2,b2,hd2⟩:=zcg d1 out.length hd1 (by omega); have hlt:n2.toNat < out.length:=by omega
              simp only [eq_self,zbb]; simp (disch:=omega) only [zan,zaD,e0,zaX,e1,show (n1 == 0)=false by simpa using c0,show (n1 == 1)=false by simpa using c1,show (n1 == 2)=false by simpa using c2,show (n1 == 3)=true by simpa using c3,zaE,zaq,e2,zao,zbK,zbH,zaA hlt,zaV,zbb,w64_id (n:=i+1)]; simp only [zcH zaa]; exact more _ _ (show out[n2.toNat].Pages.length≤12 from hp _ (zbd hlt)) hd2
            · simp (disch:=omega) only [zan,zaD,zaQ,e0,zaX,e1,show (n1 == 0)=false by simpa using c0,show (n1 == 1)=false by simpa using c1,show (n1 == 2)=false by simpa using c2,show (n1 == 3)=true by simpa using c3,zaE,zaq,w64_id]; exact stay _ hd1
          · obtain ⟨e,d2,e2,he,hd2⟩:=c_Mark d1 s i (w64 (w64 (5*i)+n0)) hd1 hs; simp only [eq_self,zbb]; simp (disch:=omega) only [zan,zaD,e0,zaX,e1,show (n1 == 0)=false by simpa using c0,show (n1 == 1)=false by simpa using c1,show (n1 == 2)=false by simpa using c2,show (n1 == 3)=false by simpa using c3,zaq,e2,zsy,zao,zbb,w64_id (n:=i+1)]; simp only [zcH zaa]; exact more _ _ he hd2
 obtain ⟨y,e1,l,d',rfl,h⟩:=loop n.toNat 0 [] d (by omega) (by omega) (by simp) (by simp) hd; exact ⟨l,d',zug _ _ _ e1,h⟩
def FullEv (n:Int) (e:zab):Prop:=e.Pages.length≤12∧e.Kind=0∧n≤e.Stamp.Time∧e.Stamp.Time≤n+120∧1000≤e.Stamp.Seq∧e.Marker=0
theorem c_FullK (d:zae) (s:zay) (n:Int) (hd:DOk d) (hs:DSetup s) (hn:0≤n∧n≤1000):∃ (l:List zab) (d':zae),cw zis [.loc 1000 2 0 0,.agg (zas s),I n] (mD d)=some (zdP (l,d'))∧l.length≤120∧(∀ e∈l,FullEv n e)∧DOk d':=by
 have hm2:=hs.markers.2.1; have hsl:=hs.scripts.2.2; have hpl:=hs.papers.2.1
 let Q:AV×Mem→Prop:=fun y=>∃ (l:List zab) (d':zae),y=zdP (l,d')∧l.length≤120∧(∀ e∈l,FullEv n e)∧DOk d'
 have loop:=zdB s.Scripts (fun i _=>∀ (out:List zab) (d:zae),(out.length:Int)≤15*i→(∀ e∈out,FullEv n e)→DOk d→Sat Q (zg2 s n (List.map zaa out) d i)) ?_ ?_ [] d (by simp) (by simp) hd
 · obtain ⟨y,e1,l,d',rfl,h⟩:=loop; exact ⟨l,d',zwK _ _ _ e1,h⟩
 · intro out d hl hp hd; refine sat_of (fun y=>zon _ _ _ _ _) ?_; simp (disch:=omega) only [zan,zaQ,zbb]; exact sat_some ⟨out,d,rfl,by omega,hp,hd⟩
 · intro i hi r _ ih out d hl hp hd; obtain ⟨k,p,hk,hpm,hx,hdp⟩:=ofScript hs (zbd hi); have hpp:=hdp.1; have hpg:=hx.2.2.2.2.2.1; refine sat_of (fun y=>zon _ _ _ _ _) ?_; simp (disch:=omega) only [zan,zaD,zao,za2,zgL,zaA hi,zaV,zsv s.Papers _ (show s.Papers.length≤1000000 by omega),hk,zc6,zfi,zio]; refine zdB s.Markers (fun j _=>∀ (out:List zab) (d:zae),(out.length:Int)≤15*i+3*j→(∀ e∈out,FullEv n e)→DOk d→Sat Q (zg3 s n i p (List.map zaa out) d j)) ?_ ?_ out d (by omega) hp hd
   · intro out d hl hp hd; refine sat_of (fun y=>zoo _ _ _ _ _ _ _) ?_; simp (disch:=omega) only [zan,zaQ,w64_id]; exact ih out d (by omega) hp hd
   · intro j hj r _ ih2 out d hl hp hd; refine sat_of (fun y=>zoo _ _ _ _ _ _ _) ?_; simp (disch:=omega) only [zan,zaD]; refine zdB p.Parts (fun q _=>∀ (out:List zab) (d:zae),(out.length:Int)≤15*i+3*j+q→(∀ e∈out,FullEv n e)→DOk d→Sat Q (zeD s n i p j (List.map zaa out) d q)) ?_ ?_ out d (by omega) hp hd
     · intro out d hl hp hd; refine sat_of (fun y=>zop _ _ _ _ _ _ _ _) ?_; simp (disch:=omega) only [zan,zaQ,w64_id]; exact ih2 out d (by omega) hp hd
     · intro q hq r _ ih3 out d hl hp hd; have hmx:=(hdp.2.2.1 _ (zbd hq)).1.1; refine sat_of (fun y=>zop _ _ _ _ _ _ _ _) ?_; by_cases hkd:p.Parts[q].Kind=1
       · obtain ⟨n0,d0,e0,a0,b0,hd0⟩:=zcg d 4 hd (by omega); by_cases hz:0 < n0
         · obtain ⟨n1,d1,e1,a1,b1,hd1⟩:=zcg d0 (p.Parts[q].Max+1) hd0 (by omega); simp (disch:=omega) only [zan,zaD,zao,za2,zen,zaA hq,zaV,show (p.Parts[q].Kind == 1)=true by simpa using hkd,zaE,e0,zaX,zdS,zaA hj,zgL,zaA hi,w64_id,e1,zbb,zcH zaa]; refine ih3 (out++[_]) d1 (by simp; omega) ?_ hd1; intro x hx'; rcases zb6.1 hx' with hx' | hx'
           · exact hp x hx'
           · simp only [zdg] at hx'; subst hx'; refine ⟨?_,rfl,?_,?_,?_,rfl⟩ <;> dsimp only <;> omega
         · simp (disch:=omega) only [zan,zaD,zaQ,zao,za2,zen,zaA hq,zaV,show (p.Parts[q].Kind == 1)=true by simpa using hkd,zaE,e0,zaX,w64_id]; exact ih3 out d0 (by omega) hp hd0
       · simp (disch:=omega) only [zan,zaD,zaQ,zao,za2,zen,zaA hq,zaV,show (p.Parts[q].Kind == 1)=false by simpa using hkd,zaq,w64_id]; exact ih3 out d (by omega) hp hd
theorem c_Full (d:zae) (s:zay) (n:Int) (hd:DOk d) (hs:DSetup s) (hn:0≤n∧n≤1000:=by omega):∃ (l:List zab) (d':zae),cw zis [.loc 1000 2 0 0,.agg (zas s),I n] (mD d)=some (zdP (l,d'))∧l.length≤120∧(∀ e∈l,e.Pages.length≤12)∧DOk d':=by obtain ⟨l,d',h1,h2,h3,h4⟩:=c_FullK d s n hd hs hn; exact ⟨l,d',h1,h2,fun e he=>(h3 e he).1,h4⟩
theorem zzF (s:zaN):cw zoz [.agg (zbu s)] []=some (zaj (dec (zl3 s))):=by
 refine zzL s ?_; simp only [zei,decide_eq_true_eq]
 repeat' split
 all_goals first
  | (rw [zbp (by unfold zl3; omega)]; rfl)
  | (rw [show decide (s.Seq≤9999)=dec (zl3 s) from ziq (by simp only [decide_eq_true_eq]; unfold zl3; omega)]; rfl)
theorem zoW (a b c:Int):cw zgZ [I a,I b,I c] []=some (zaj (dec (b≤a∧a≤c))):=by
 refine e_ref28_in a b c ?_; simp only [zei,decide_eq_true_eq]; split
 · rw [show decide (a≤c)=dec (b≤a∧a≤c) from ziq (by simp only [decide_eq_true_eq]; omega)]; rfl
 · rw [zbp (by omega)]; rfl
theorem zzG (e:zab):cw zoA [.agg (zaa e)] []=some (zaj (dec (zpd e))):=by
 refine zzM e ?_; simp only [zzF,zoW,zam,zam,zan]; by_cases h1:zl3 e.Stamp
 · by_cases h2:0≤e.Script∧e.Script≤319999
   · by_cases h3:e.Pages.length≤12
     · simp (disch:=omega) only [zbr h1,zbr h2,zbA,zaq,zaQ]; have H:=zlL e.Pages.length (fun j hj=>0≤e.Pages[j]∧e.Pages[j]≤1152921504606846976) (fun i=>zjJ e i) (fun b=>zaj (b && dec (OkKind e))) ?_ ?_ ?_
       · rw [H]; congr 2; rw [zuX]; simp only [zbS,zqX,zpd]; rw [znr (G:=fun n=>0≤n∧n≤1152921504606846976)]; exact ⟨fun ⟨a,b⟩=>⟨h1,h2,h3,a,b⟩,fun ⟨_,_,_,a,b⟩=>⟨a,b⟩⟩
       · refine zm2 _ _ ?_; simp (disch:=omega) only [zan,zaQ,zoW,zam,zij]; simp only [zei,decide_eq_true_eq,beq_iff_eq,zqX]
         repeat' split
         all_goals first
          | (rw [zbp (by unfold OkKind; omega)]; rfl)
          | (refine congrArg some (congrArg zaj (?_:_=dec (OkKind e)):_=zaj _)
             refine ziq ?_; simp only [beq_iff_eq]; unfold OkKind
             omega)
       · intro i hi hn; refine zm2 _ _ ?_; simp (disch:=omega) only [zan,zaD,zao,za2,zck,zaA hi,zaV,zoW,zam,zbp hn,zci,zaE,zik]; rfl
       · intro i hi y hg hk; refine zm2 _ _ ?_; simp (disch:=omega) only [zan,zaD,zao,za2,zck,zaA hi,zaV,zoW,zam,zbr hg,zbA,zaq,w64_id,hk]
     · simp (disch:=omega) only [zbr h1,zbr h2,zbA,zaq,zaD]; rw [zbp (fun h=>h3 h.2.2.1)]; rfl
   · simp only [zbr h1,zbp h2,zbA,zci,zaq,zaE]; rw [zbp (fun h=>h2 h.2.1)]; rfl
 · simp only [zbp h1,zci,zaE]; rw [zbp (fun h=>h1 h.1)]; rfl
theorem zvK (a b:List Int) (hl:a.length≤1000000):cw zhG [.sl 1 (List.map zai a),.sl 1 (List.map zai b)] []=some (zaj (dec (a=b))):=by
 refine zvx a b ?_; by_cases h:a.length=b.length
 · simp only [zan,h,bne_self_eq_false,zaq]; have H:=zlL a.length (fun j hj=>a[j]=b[j]'(by omega)) (fun i=>zgz a b i) zaj ?_ ?_ ?_
   · rw [H,zkK]; exact ⟨fun hh=>zwm h (fun i h1 h2=>hh i h1),fun hh=>by subst hh; intros; rfl⟩
   · exact zjA _ _ _ (by simp (disch:=omega) only [zan,zaQ]; rfl)
   · intro i hi hn; refine zjA _ _ _ ?_; simp (disch:=omega) only [zan,zaD,zao,za2,zck,zaA hi,zaA (show i < b.length by omega),zaV,show (a[i] != b[i]'(by omega))=true by simpa using hn,zaE]; rfl
   · intro i hi y hn hk; refine zjA _ _ _ ?_; simp (disch:=omega) only [zan,zaD,zao,za2,zck,zaA hi,zaA (show i < b.length by omega),zaV,show (a[i] != b[i]'(by omega))=false by simpa using hn,zaq,w64_id,hk]
 · rw [zbp (fun hh=>h (by rw [hh]))]; simp only [zan,show ((a.length:Int) != (b.length:Int))=true by simp only [bne_iff_ne,ne_eq]; omega,zaE]; rfl
theorem zAu (a b:zab) (hl:a.Pages.length≤1000000):cw zpZ [.agg (zaa a),.agg (zaa b)] []=some (zaj (dec (a=b))):=by
 refine zAH a b ?_; obtain ⟨⟨a1,a2,a3⟩,a4,a5,a6,a7,a8,a9⟩:=a; obtain ⟨⟨b1,b2,b3⟩,b4,b5,b6,b7,b8,b9⟩:=b; simp only [zei,beq_iff_eq,zbS,znh,zvK _ _ hl,zam]
 repeat' split
 all_goals first
  | (rw [zbp (by simp only [zab.mk.injEq,zaN.mk.injEq]; omega)]; rfl)
  | (refine congrArg some (congrArg zaj (zkK ?_):_=zaj _)
     simp only [zab.mk.injEq,zaN.mk.injEq]
     simp [*])
theorem zpO (a b:zaN):cw zkd [.agg (zbu a),.agg (zbu b)] []=some (zaj (lessS a b)):=by
 refine zAG a b ?_; unfold lessS; simp only [zei,bne_iff_ne]; split
 · rfl
 · split <;> rfl
theorem zyx (a b:zab):cw znB [.agg (zaa a),.agg (zaa b)] []=some (zaj (lessS a.Stamp b.Stamp)):=by refine zyF a b ?_; simp only [zpO,zam]; rfl
end Go.Proofs.YtikogkgdkdmljaaGreat
end
