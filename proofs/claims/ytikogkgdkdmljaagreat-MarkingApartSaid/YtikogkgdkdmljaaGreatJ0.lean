/- Loops and branches of printed trees. -/
import Derived.Test.YtikogkgdkdmljaaGreatK5
import Derived.Test.YtikogkgdkdmljaaGreatAb9
set_option linter.unusedSimpArgs false
set_option linter.unusedVariables false
noncomputable section
namespace Go.Proofs.YtikogkgdkdmljaaGreat
open Go.Ab
theorem w6Q {n:Int} (h1:-9223372036854775808≤n:=by omega) (h2:n < 9223372036854775808:=by omega):w64 n=n:=w64_id h1 h2
theorem iNQ {c:Prop} [Decidable c] {α:Type} {t e:α} (h:¬c:=by omega):ite c t e=e:=if_neg h
theorem iPQ {c:Prop} [Decidable c] {α:Type} {t e:α} (h:c:=by omega):ite c t e=t:=if_pos h
theorem iNs {c:Prop} [Decidable c] {α:Type} {t e:α} (h:¬c:=by simp):ite c t e=e:=if_neg h
theorem cPQ {p:Prop} {β:Type} {x:Option β} (h:p:=by omega):chk p x=x:=zan h x
theorem zbw {p:Prop} (h:p):dec p=true:=by unfold dec; simp [h]
theorem zbq {p:Prop} (h:¬p):dec p=false:=by unfold dec; simp [h]
theorem zkF {p q:Prop} (h:p↔q):dec p=dec q:=by rw [propext h]
theorem zvI {p:Prop}:dec p=true↔p:=by unfold dec; simp
theorem zih {b:Bool} {p:Prop} (h:b=true↔p):b=dec p:=by
 by_cases hp:p
 · rw [zbw hp]; exact h.2 hp
 · rw [zbq hp]; cases b with
   | true=>exact absurd (h.1 rfl) hp
   | false=>rfl
theorem zeC {β:Type} (b:Bool) (t e:Option β):brn b t e=if b=true then t else e:=by cases b <;> rfl
variable {α β:Type}
theorem zdV (l:List α) (P:Int→List α→Prop) (h0:P l.length [])
  (hs:∀ (i:Nat) (hi:i < l.length) (r:List α),l.drop (i+1)=r→P ((i:Int)+1) r→P i (l[i] :: r)):P 0 l:=by
 have key:∀ (n i:Nat),i+n=l.length→P (i:Int) (l.drop i):=by
  intro n
  induction n with
  | zero=>intro i hi; have:l.drop i=[]:=zkz (by omega); rw [this,show i=l.length by omega]; exact h0
  | succ n ih =>
    intro i hi; have hlt:i < l.length:=by omega
    rw [zc3 hlt]; have:=ih (i+1) (by omega); rw [zpA] at this; exact hs i hlt _ rfl this
 have:=key l.length 0 (by omega); simpa using this
theorem znv (n:Nat) (G:∀ j,j < n→Prop) (K:Int→Option β) (S:β→Prop) (z:β) (h0:(∀ j hj,G j hj)→K n=some z)
  (hno:∀ (i:Nat) (hi:i < n),(∀ j (hj:j < i),G j (by omega))→¬ G i hi→∃ y,S y∧K i=some y) (hyes:∀ (i:Nat) (hi:i < n) (y:β),G i hi→K ((i:Int)+1)=some y→K i=some y):((∀ j hj,G j hj)∧K 0=some z)∨((∃ j hj,¬ G j hj)∧∃ y,S y∧K 0=some y):=by
 have key:∀ (m i:Nat),i+m=n→(∀ j (hj:j < i) (hn:j < n),G j hn)→((∀ j hj,i≤j→G j hj)∧K (i:Int)=some z)∨((∃ j hj,¬ G j hj)∧∃ y,S y∧K (i:Int)=some y):=by
  intro m
  induction m with
  | zero=>intro i hi hpre; left; refine ⟨fun j hj h=>by omega,?_⟩; rw [show i=n by omega,h0 (fun j hj=>hpre j (by omega) hj)]
  | succ m ih =>
    intro i hi hpre; by_cases hg:G i (by omega)
    · have:=ih (i+1) (by omega) (fun j hj hn=>by
       by_cases e:j=i
       · subst e; exact hg
       · exact hpre j (by omega) hn)
      rw [zpA] at this; rcases this with ⟨h1,h2⟩ | ⟨h1,y,h2,h3⟩
      · left; refine ⟨fun j hj h=>?_,hyes i (by omega) z hg h2⟩; by_cases e:j=i
        · subst e; exact hg
        · exact h1 j hj (by omega)
      · exact .inr ⟨h1,y,h2,hyes i (by omega) y hg h3⟩
    · exact .inr ⟨⟨i,by omega,hg⟩,hno i (by omega) (fun j hj=>hpre j hj _) hg⟩
 rcases key n 0 (by omega) (fun j hj=>by omega) with ⟨h1,h2⟩ | h
 · exact .inl ⟨fun j hj=>h1 j hj (zkD _),h2⟩
 · exact .inr h
theorem zlL (n:Nat) (G:∀ j,j < n→Prop) (K:Int→Option β) (q:Bool→β) (h0:K n=some (q true))
  (hno:∀ (i:Nat) (hi:i < n),¬ G i hi→K i=some (q false)) (hyes:∀ (i:Nat) (hi:i < n) (y:β),G i hi→K ((i:Int)+1)=some y→K i=some y):K 0=some (q (dec (∀ j hj,G j hj))):=by
 rcases znv n G K (fun x=>x=q false) (q true) (fun _=>h0) (fun i hi _ h=>⟨_,rfl,hno i hi h⟩) hyes with ⟨h1,h2⟩ | ⟨⟨j,hj,h1⟩,y,rfl,h2⟩
 · rw [h2,zbw h1]
 · rw [h2,zbq (fun h=>h1 (h j hj))]
theorem all_err (n:Nat) (G:∀ j,j < n→Prop) (K:Int→Option β) (q:Int→β) (h0:K n=some (q 0))
  (hno:∀ (i:Nat) (hi:i < n),¬ G i hi→∃ e,e≠0∧K i=some (q e)) (hyes:∀ (i:Nat) (hi:i < n) (y:β),G i hi→K ((i:Int)+1)=some y→K i=some y):∃ e,K 0=some (q e)∧(e=0↔∀ j hj,G j hj):=by
 rcases znv n G K (fun x=>∃ e,e≠0∧x=q e) (q 0) (fun _=>h0) (fun i hi _ h=>by obtain ⟨e,h1,h2⟩:=hno i hi h; exact ⟨_,⟨e,h1,rfl⟩,h2⟩) hyes with ⟨h1,h2⟩ | ⟨⟨j,hj,h1⟩,y,⟨e,h2,rfl⟩,h3⟩
 · exact ⟨0,h2,by simp; exact h1⟩
 · exact ⟨e,h3,fun h=>absurd h h2,fun h=>absurd (h j hj) h1⟩
theorem all_from (s n:Nat) (hs:s≤n) (G:∀ j,s≤j→j < n→Prop) (K:Int→Option β) (q:Bool→β) (h0:K n=some (q true))
  (hno:∀ (i:Nat) (hs:s≤i) (hi:i < n),¬ G i hs hi→K i=some (q false)) (hyes:∀ (i:Nat) (hs:s≤i) (hi:i < n) (y:β),G i hs hi→K ((i:Int)+1)=some y→K i=some y):K s=some (q (dec (∀ j hs hj,G j hs hj))):=by
 have h:=zlL (n - s) (fun j hj=>G (s+j) (by omega) (by omega)) (fun i=>K (s+i)) q (by rw [show ((s:Int)+((n - s:Nat):Int))=n by omega]; exact h0)
  (fun i hi hg=>by have:=hno (s+i) (by omega) (by omega) hg; rw [zpA] at this; exact this)
  (fun i hi y hg hk=>by
   have:=hyes (s+i) (by omega) (by omega) y hg (by rw [zpA,Int.add_assoc]; exact hk)
   rw [zpA] at this; exact this)
 rw [Int.add_zero] at h; rw [h]; congr 2; refine zkF ⟨fun h j h1 h2=>?_,fun h j hj=>h (s+j) (by omega) (by omega)⟩; have:=h (j - s) (by omega); simpa only [show s+(j - s)=j by omega] using this
theorem znw {l:List α} {G:α→Prop}:(∀ j (hj:j < l.length),G l[j])↔∀ x∈l,G x:=by
 constructor
 · intro h x hx; obtain ⟨j,hj,rfl⟩:=zne.1 hx; exact h j hj
 · exact fun h j hj=>h _ (zbi hj)
theorem zfF {i:Nat} (h:0 < i):((i:Int) - 1).toNat=i - 1:=by omega
theorem zrw {f:α→Int} {l:List α}:(∀ i (hi:i < l.length),∀ h:0 < i,f (l[i - 1]'(by omega)) < f l[i])↔AscBy f l:=by
 constructor
 · intro h j hj; exact h (j+1) hj (by omega)
 · intro h i hi h0; have:=h (i - 1) (by omega); simp only [show i - 1+1=i by omega] at this; exact this
theorem asc_lt {f:α→Int} {l:List α} (h:AscBy f l):∀ (i j:Nat) (hj:j < l.length) (hij:i < j),f (l[i]'(by omega)) < f l[j]:=by
 intro i j hj hij; obtain ⟨d,rfl⟩:∃ d,j=i+1+d:=⟨j - i - 1,by omega⟩
 induction d with
 | zero=>exact h i hj
 | succ d ih=>have h1:=ih (by omega) (by omega); have h2:=h (i+1+d) (by omega); have:l[i+1+(d+1)]'hj=l[i+1+d+1]'(by omega):=rfl; rw [this]; exact Int.lt_trans h1 h2
theorem fnd_some {p:α→Bool}:∀ {l:List α} {i j:Nat} {x:α},fnd p i l=some (j,x)→i≤j∧l[j - i]?=some x∧p x=true∧∀ k y,k < j - i→l[k]?=some y→p y=false
 | [],i,j,x,h=>by simp [fnd] at h
 | a :: l,i,j,x,h=>by
   simp only [fnd] at h; split at h
   · rename_i ha; simp only [zax,zaH] at h; obtain ⟨rfl,rfl⟩:=h; exact ⟨zbL _,by simp,ha,fun k y hk=>by omega⟩
   · rename_i ha; obtain ⟨h1,h2,h3,h4⟩:=fnd_some h; have e:j - i=(j - (i+1))+1:=by omega
     refine ⟨by omega,by rw [e]; simpa using h2,h3,fun k y hk hy=>?_⟩
     cases k with
     | zero=>simp at hy; subst hy; simpa using ha
     | succ k=>exact h4 k y (by omega) (by simpa using hy)
theorem fnd_at {p:α→Bool} {l:List α} {j:Nat} {x:α} (h:fnd p 0 l=some (j,x)):l[j]?=some x∧p x=true∧∀ k y,k < j→l[k]?=some y→p y=false:=by have:=(fnd_some h).2; simpa using this
theorem znH {p:α→Bool}:∀ {l:List α} {i:Nat},fnd p i l=none↔∀ x∈l,p x=false
 | [],i=>by simp [fnd]
 | a :: l,i=>by
   simp only [fnd]; split
   · rename_i ha; simp [ha]
   · rename_i ha; rw [znH]; simp only [za7,forall_eq_or_imp]; exact ⟨fun h=>⟨by simpa using ha,h⟩,fun h=>h.2⟩
theorem fnd_of {p:α→Bool} {l:List α} {j:Nat} {x:α} (hx:l[j]?=some x) (hp:p x=true) (hk:∀ k y,k < j→l[k]?=some y→p y=false):fnd p 0 l=some (j,x):=by
 cases h:fnd p 0 l with
 | none=>have:=znH.1 h x (zbU hx); rw [hp] at this; cases this
 | some q =>
   obtain ⟨i,y⟩:=q; obtain ⟨h1,h2,h3⟩:=fnd_at h; rcases Nat.lt_trichotomy i j with c | c | c
   · have:=hk i y c h1; rw [h2] at this; cases this
   · subst c; rw [hx] at h1; injection h1 with h1; rw [h1]
   · have:=h3 j x c hx; rw [hp] at this; cases this
theorem zir (l:List α) (p:α→Bool) (K:Int→Option β) (R:Option (Nat×α)→β) (h0:K l.length=some (R none))
  (hyes:∀ (i:Nat) (hi:i < l.length),p l[i]=true→K i=some (R (some (i,l[i])))) (hno:∀ (i:Nat) (hi:i < l.length) (y:β),p l[i]=false→K ((i:Int)+1)=some y→K i=some y):K 0=some (R (fnd p 0 l)):=by
 have H:=znv l.length (fun j hj=>p l[j]=false) K (fun y=>∃ i x,fnd p 0 l=some (i,x)∧y=R (some (i,x))) (R none) (fun _=>h0)
  (fun i hi hpre hn=>⟨_,⟨i,l[i],fnd_of (zaB hi) (by simpa using hn) (fun k y hk hy=>by
   obtain ⟨hk',rfl⟩:=zbu.1 hy
   exact hpre k hk),rfl⟩,hyes i hi (by simpa using hn)⟩) hno
 rcases H with ⟨h1,h2⟩ | ⟨_,y,⟨i,x,h2,rfl⟩,h3⟩
 · rw [h2,znH.2 ((znw (G:=fun x=>p x=false)).1 h1)]
 · rw [h3,h2]
def mkN (n:Nat) (f:Nat→α) (d:α) (i:Nat):List α:=(List.range n).map fun j=>if j < i then f j else d
theorem zsV (n:Nat) (f:Nat→α) (d:α) (i:Nat):(mkN n f d i).length=n:=by simp [mkN]
theorem mkN_get {n:Nat} {f:Nat→α} {d:α} {i:Nat} (h:i < n):(mkN n f d i)[i]?=some d:=by simp [mkN,h]
theorem mkN_zero (n:Nat) (f:Nat→α) (d:α):mkN n f d 0=List.replicate n d:=by unfold mkN; simp only [Nat.not_lt_zero,if_false,List.map_const',aLiAs16]
theorem zuW {n:Nat} {f:Nat→α} {d:α} {i:Nat} {v:α} (hv:v=f i):(mkN n f d i).set i v=mkN n f d (i+1):=by
 subst hv; apply zjU; intro j; by_cases hj:j < n
 · by_cases e:i=j
   · subst e; rw [List.getElem?_set_self (by rw [zsV]; exact hj)]; simp [mkN,hj]
   · rw [List.getElem?_set_ne e]; simp only [mkN,zcW,znf hj,zc6]; congr 1; by_cases h:j < i
     · rw [if_pos h,iPQ]
     · rw [if_neg h,iNQ]
 · rw [zpe (by rw [zpB,zsV]; omega),zpe (by rw [zsV]; omega)]
theorem mkN_same {n:Nat} {f:Nat→α} {d:α} {i:Nat} (h:f i=d):mkN n f d i=mkN n f d (i+1):=by
 unfold mkN; apply zi8; intro j _; by_cases c:j < i
 · rw [if_pos c,iPQ]
 · by_cases e:j=i
   · subst e; rw [if_neg c,iPQ,h]
   · rw [if_neg c,iNQ]
theorem mkN_all (n:Nat) (f:Nat→α) (d:α):mkN n f d n=(List.range n).map f:=by unfold mkN; apply zi8; intro j hj; rw [if_pos (zic.1 hj)]
theorem zkl {γ:Type} (f:α→γ) (l:List α) (i:Nat) (a:α):(List.map f l).set i (f a)=List.map f (l.set i a):=List.map_set.symm
theorem zcm {γ:Type} (f:α→γ) (l:List α) (a:α):List.map f l++[f a]=List.map f (l++[a]):=by simp
theorem map_rep {γ:Type} (f:α→γ) (n:Nat) (a:α):List.replicate n (f a)=List.map f (List.replicate n a):=by simp
theorem take_len (l:List α):List.take l.length l=l:=zjV
instance (p:GPart):Decidable (OkPart p):=by unfold OkPart; infer_instance
theorem zpO (p:GPart):cw zlO [.agg (zaQ p)] []=some (zai (dec (OkPart p))):=by
 refine zwz p ?_; simp only [zeC,decide_eq_true_eq,beq_iff_eq]
 repeat' split
 all_goals first
  | (rw [zbq (by unfold OkPart; omega)]; rfl)
  | (rw [show (p.Key == 0)=dec (OkPart p) from zih (by simp only [beq_iff_eq]; unfold OkPart; omega)]; rfl)
  | (rw [show decide (p.Key < p.Options)=dec (OkPart p) from zih (by simp only [decide_eq_true_eq]; unfold OkPart; omega)]; rfl)
theorem zv2 (p:GPart) (l:List GPart):sumMax (p :: l)=p.Max+sumMax l:=by simp [sumMax]
theorem zuJ {l:List GPart} (h:∀ p∈l,OkPart p):0≤sumMax l∧sumMax l≤40*l.length:=by
 induction l with
 | nil=>simp [sumMax]
 | cons p l ih=>have h1:=ih (fun q hq=>h q (by simp [hq])); have h2:=(h p (by simp)).1; rw [zv2,zfQ]; omega
theorem zxn (l:List GPart) (h:∀ p∈l,OkPart p) (hl:l.length≤24):cw zmE [.sl 6 (List.map zaQ l)] []=some (zbh (sumMax l)):=by
 refine zxA l ?_; have hb:=zuJ h; refine zdV l (fun i r=>∀ s:Int,0≤s→0≤sumMax r→s+sumMax r=sumMax l→zhD l s i=some (zbh (sumMax l))) ?_ ?_ 0 (by omega) (by omega) (by omega)
 · intro s _ _ hs; refine zoR l _ _ ?_; simp (disch:=omega) [zaO]; rw [← hs]; simp [sumMax]; rfl
 · intro i hi r hr ih s h0 h1 hs; refine zoR l _ _ ?_; have hm:=(h l[i] (zbi hi)).1; rw [zv2] at hs h1; have hr0:0≤sumMax r:=(zuJ (l:=r) (fun q hq=>h q (by rw [← hr] at hq; exact zky hq))).1; simp (disch:=omega) [zaD,zan,w64_id]; exact ih _ (by omega) hr0 (by omega)
theorem zvf (p:zaG):cw zk8 [.agg (zaJ p)] []=some (zai (dec (zi2 p))):=by
 refine zvk p ?_; by_cases hh:((0≤p.Code∧p.Code≤31)∧(0≤p.Variant∧p.Variant < 4)∧(1≤p.Parts.length∧p.Parts.length≤24))
 · simp (disch:=omega) only [zam,zaO]
   have hg:=fun z h0=>znv p.Parts.length (fun j hj=>OkPart p.Parts[j]) (fun i=>zgy p i) (fun y=>y=zai false) z h0
    (fun i hi _ hn=>⟨_,rfl,zjq p _ (by simp (disch:=omega) [zaD,zan,zpO,zbq hn]; rfl)⟩)
    (fun i hi y hy hk=>zjq p _ (by simp (disch:=omega) [zaD,zan,w64_id,zpO,zbw hy,hk]))
   rcases hg (zai (dec (zi2 p))) (fun h=>zjq p _ (by
    have h':=znw.1 h; simp (disch:=omega) [zaO,zxn p.Parts h' (by omega)]; rw [show decide (sumMax p.Parts≤200)=dec (zi2 p) from zih (by simp only [decide_eq_true_eq]; unfold zi2; exact ⟨fun h=>⟨hh.1,hh.2.1,hh.2.2,h',h⟩,fun h=>h.2.2.2.2⟩)]
    rfl)) with ⟨h1,h2⟩ | ⟨⟨j,hj,h1⟩,y,rfl,h3⟩
   · exact h2
   · rw [zbq (fun h=>h1 (h.2.2.2.1 _ (zbi hj)))]; exact h3
 · rw [zbq (fun h=>hh ⟨h.1,h.2.1,h.2.2.1⟩)]; simp only [zeC,decide_eq_true_eq,zam]
   repeat' split
   all_goals first
    | rfl
    | omega
theorem zBo {ks:List Int}:OkKeys 0 ks↔ks=[]:=by
 constructor
 · intro h
   cases ks with
   | nil=>rfl
   | cons k ks=>have:=h.1 k (by simp); omega
 · rintro rfl; exact ⟨by simp,fun j hj=>by simp at hj⟩
theorem okKeys_iff {o:Int} {ks:List Int}:(∀ j (hj:j < ks.length),(0≤ks[j]∧ks[j] < o)∧∀ h:0 < j,(ks[j - 1]'(by omega)) < ks[j])↔OkKeys o ks:=by unfold OkKeys; rw [← zrw,← znw]; exact ⟨fun h=>⟨fun j hj=>(h j hj).1,fun j hj=>(h j hj).2⟩,fun h j hj=>⟨h.1 j hj,h.2 j hj⟩⟩
theorem zj0 (p:GPart) (ks:List Int) (hp:OkPart p) (hl:ks.length≤1000000):cw zkd [.agg (zaQ p),.sl 1 (List.map zaj ks)] []=some (zai (dec (OkKeys p.Options ks))):=by
 refine zum p ks ?_; by_cases hk:p.Kind=1
 · have ho:p.Options=0:=by unfold OkPart at hp; omega
   simp only [hk,beq_self_eq_true,zaF,zam]; rw [show ((ks.length:Int) == 0)=dec (OkKeys p.Options ks) from zih (by rw [ho,zBo]; simp)]; rfl
 · simp only [show (p.Kind == 1)=false by simpa using hk,zat]; rw [← zkF okKeys_iff]; refine zlL ks.length _ (fun i=>zeU p ks i) (fun b=>zai b) ?_ ?_ ?_
   · exact ziM p ks _ (by simp (disch:=omega) only [zam,zaO]; rfl)
   · intro i hi hg; refine ziM p ks _ ?_; by_cases h1:0≤ks[i]∧ks[i] < p.Options
     · have h0:0 < i:=by
        apply zwh
        rintro rfl
        exact hg ⟨h1,fun h=>absurd h (by omega)⟩
       have h2:¬ (ks[i - 1] < ks[i]):=fun h=>hg ⟨h1,fun _=>h⟩
       simp (disch:=omega) [zaD,zaO,zan,w64_id,zfF h0]; rfl
     · by_cases h2:ks[i] < 0
       · simp (disch:=omega) [zaD,zan]; rfl
       · simp (disch:=omega) [zaD,zaO,zan]; rfl
   · intro i hi y hg hk'; refine ziM p ks _ ?_; by_cases h0:0 < i
     · have h2:=hg.2 h0; have h1:=hg.1; simp (disch:=omega) [zaD,zaO,zan,w64_id,zfF h0,hk']
     · have h1:=hg.1; simp (disch:=omega) [zaD,zaO,zan,w64_id,hk']
theorem zqs (k:Int):cw zmK [I k] []=some (zai (dec (0≤k∧k≤2))):=by
 refine zxH k ?_; simp only [zeC,beq_iff_eq]
 repeat' split
 all_goals first
  | (rw [zbw (by omega)]; rfl)
  | (rw [zbq (by omega)]; rfl)
theorem zAC {p:zaG} {s:zbt} (h1:s.Keys.length=p.Parts.length) (h2:s.Withdrawn.length=p.Parts.length) (hp:zi2 p):(∀ j (hj:j < p.Parts.length),OkKeys p.Parts[j].Options (s.Keys[j]'(by omega))∧(0≤s.Withdrawn[j]'(by omega)∧s.Withdrawn[j]'(by omega)≤2))↔zfW p s:=by
 unfold zfW; constructor
 · intro h; refine ⟨hp,h1,h2,fun j x ks k a b c=>?_⟩; obtain ⟨hj,rfl⟩:=zbu.1 a; obtain ⟨_,rfl⟩:=zbu.1 b; obtain ⟨_,rfl⟩:=zbu.1 c; exact h j hj
 · intro h j hj; exact h.2.2.2 j _ _ _ (zaB hj) (zaB (by omega)) (zaB (by omega))
theorem zhM (p:zaG) (s:zbt) (hs:Short s):cw zhP [.agg (zaJ p),.agg (zbY s)] []=some (zai (dec (zfW p s))):=by
 refine zyu p s ?_; simp only [zvf,zao,zam]; by_cases hp:zi2 p
 · by_cases h1:s.Keys.length=p.Parts.length
   · by_cases h2:s.Withdrawn.length=p.Parts.length
     · simp only [zbw hp,h1,h2,zbH,zat,bne_self_eq_false]; have hpl:=hp.2.2.1; rw [← zkF (zAC h1 h2 hp)]; refine zlL p.Parts.length _ (fun i=>ziu p s i) (fun b=>zai b) ?_ ?_ ?_
       · exact zl2 p s _ (by simp (disch:=omega) only [zam,zaO]; rfl)
       · intro i hi hg; have hi1:i < s.Keys.length:=by omega
         have hi2:i < s.Withdrawn.length:=by omega
         refine zl2 p s _ ?_; have hx:=hp.2.2.2.1 _ (zbi hi); by_cases h3:OkKeys p.Parts[i].Options s.Keys[i]
         · have h4:¬ (0≤s.Withdrawn[i]∧s.Withdrawn[i]≤2):=fun h=>hg ⟨h3,h⟩
           simp (disch:=omega) [zaD,zan,zj0 _ _ hx (hs _ (zbi hi1)),zbw h3,zqs,zbq h4]; rfl
         · simp (disch:=omega) [zaD,zan,zj0 _ _ hx (hs _ (zbi hi1)),zbq h3]; rfl
       · intro i hi y hg hk'; have hi1:i < s.Keys.length:=by omega
         have hi2:i < s.Withdrawn.length:=by omega
         refine zl2 p s _ ?_; have hx:=hp.2.2.2.1 _ (zbi hi); simp (disch:=omega) [zaD,zan,w64_id,zj0 _ _ hx (hs _ (zbi hi1)),zbw hg.1,zqs,zbw hg.2,hk']
     · rw [zbq (p:=zfW p s) (fun h=>h2 h.2.2.1)]; simp only [zbw hp,h1,zbH,zat,bne_self_eq_false,show ((s.Withdrawn.length:Int) != p.Parts.length)=true by simpa using (by omega:¬ ((s.Withdrawn.length:Int)=p.Parts.length)),zaF]; rfl
   · rw [zbq (p:=zfW p s) (fun h=>h1 h.2.1)]; simp only [zbw hp,zbH,zat,show ((s.Keys.length:Int) != p.Parts.length)=true by simpa using (by omega:¬ ((s.Keys.length:Int)=p.Parts.length)),zaF]; rfl
 · rw [zbq hp,zbq (fun h=>hp h.1)]; rfl
theorem zew (n:Int):cw zik [I n] []=some (zai (dec (0≤n∧n≤31))):=by
 refine zwF n ?_; simp only [zeC,decide_eq_true_eq]; split
 · rw [show decide (n≤31)=dec (0≤n∧n≤31) from zih (by simp only [decide_eq_true_eq]; omega)]; rfl
 · rw [zbq (by omega)]; rfl
theorem zqt (n:Int):cw zb7 [I n] []=some (zai (!dec (0≤n∧n≤31))):=
 zqT n (by rw [zew,zao]; rfl)
theorem zyj (l:List Int) (hl:l.length≤1000000):cw zbP [.sl 1 (List.map zaj l),.fn zb7 []] []=some (zai (!dec (∀ n∈l,0≤n∧n≤31))):=by
 refine zm6 l ?_
 have key:∃ r,cw zb0 [.sl 1 (List.map zaj l),.fn zb7 []] []=some (zbh r)∧(0≤r↔¬ ∀ n∈l,0≤n∧n≤31):=by
  have H:=znv l.length (fun j hj=>0≤l[j]∧l[j]≤31) (fun i=>zd2 l i) (fun y=>∃ r:Int,0≤r∧y=zbh r) (zbh (-1)) ?_ ?_ ?_
  · rcases H with ⟨h1,h2⟩ | ⟨⟨j,hj,h1⟩,y,⟨r,h2,rfl⟩,h3⟩
    · refine ⟨-1,ziV l h2,?_⟩; have:=(znw (G:=fun n=>0≤n∧n≤31)).1 h1; exact ⟨fun h=>by omega,fun h=>absurd this h⟩
    · exact ⟨r,ziV l h3,fun _ h=>h1 (h _ (zbi hj)),fun _=>h2⟩
  · intro h; exact zfv l _ (by simp (disch:=omega) [zaO] <;> rfl)
  · intro i hi _ hg; refine ⟨_,⟨(i:Int),by omega,rfl⟩,zfv l _ ?_⟩; simp (disch:=omega) [zaD,zan,zqt,zbq hg]; rfl
  · intro i hi y hg hk; refine zfv l _ ?_; simp (disch:=omega) [zaD,zan,w64_id,zqt,zbw hg,hk]
 obtain ⟨r,h1,h2⟩:=key; rw [h1,za4]
 rw [show decide (0≤r)=!dec (∀ n∈l,0≤n∧n≤31) by
  by_cases hc:∀ n∈l,0≤n∧n≤31
  · rw [zbw hc]; simp only [zbH,decide_eq_false_iff_not]; exact fun h=>(h2.1 h) hc
  · rw [zbq hc]; simp only [zcc,decide_eq_true_eq]; exact h2.2 hc]
 rfl
theorem ziR (m:za1) (hl:m.Papers.length≤1000000):cw zil [.agg (zaT m)] []=some (zai (dec (zh7 m))):=by
 refine zsD m ?_; simp only [zeC,decide_eq_true_eq]
 repeat' split
 all_goals first
  | (rw [zbq (by unfold zh7; omega)]; rfl)
  | (rw [zyj _ hl,zao,Bool.not_not,zkF (p:=∀ n∈m.Papers,0≤n∧n≤31) (q:=zh7 m) ⟨fun h=>⟨by omega,by omega,by omega,by omega,h⟩,fun h=>h.2.2.2.2⟩]; rfl)
theorem zju (l:List Int) (hl:l.length≤1000000):cw zmH [.sl 1 (List.map zaj l)] []=some (zai (dec (AscBy id l))):=by
 refine zxB l ?_; by_cases h1:1≤l.length
 · have h:=all_from 1 l.length h1 (fun j h1 hj=>l[j - 1] < l[j]) (fun i=>zhE l i) (fun b=>zai b) ?_ ?_ ?_
   · rw [show ((1:Nat):Int)=1 from rfl] at h; rw [h]; congr 2; rw [← zrw]; exact zkF ⟨fun h i hi h0=>h i h0 hi,fun h j h1 hj=>h j hj h1⟩
   · exact zhK _ _ (by simp (disch:=omega) [zaO] <;> rfl)
   · intro i h0 hi hg; refine zhK _ _ ?_; simp (disch:=omega) [zaD,zan,w64_id,zfF h0]; rfl
   · intro i h0 hi y hg hk; refine zhK _ _ ?_; simp (disch:=omega) [zaD,zaO,zan,w64_id,zfF h0,hk]
 · rw [zbw (p:=AscBy id l) (fun j hj=>by omega)]; exact zhK _ _ (by simp (disch:=omega) [zaO] <;> rfl)
theorem zzI {l:List za1} (hl:l.length≤16):(∀ j (hj:j < l.length),(zh7 l[j]∧AscBy id l[j].Papers)∧∀ h:0 < j,(l[j - 1]'(by omega)).ID < l[j].ID)↔zn4 l:=by unfold zn4; rw [← zrw,← znw]; exact ⟨fun h=>⟨hl,fun j hj=>(h j hj).1,fun j hj=>(h j hj).2⟩,fun h j hj=>⟨h.2.1 j hj,h.2.2 j hj⟩⟩
theorem zyl (l:List za1) (hs:∀ m∈l,m.Papers.length≤1000000):∃ e,cw znC [.sl 5 (List.map zaT l)] []=some (zbh e)∧(e=0↔zn4 l):=by
 by_cases hl:l.length≤16
 · have H:=all_err l.length (fun j hj=>(zh7 l[j]∧AscBy id l[j].Papers)∧∀ h:0 < j,(l[j - 1]'(by omega)).ID < l[j].ID) (fun i=>zgn l i) (fun e=>zbh e) ?_ ?_ ?_
   · obtain ⟨e,h1,h2⟩:=H; exact ⟨e,zrG l (by simp (disch:=omega) [zaO,h1]),h2.trans (zzI hl)⟩
   · exact zgs _ _ (by simp (disch:=omega) [zaO] <;> rfl)
   · intro i hi hg; have hp:=hs _ (zbi hi); by_cases h1:zh7 l[i]
     · by_cases h2:AscBy id l[i].Papers
       · have h0:0 < i:=by
          apply zwh
          rintro rfl
          exact hg ⟨⟨h1,h2⟩,fun h=>absurd h (by omega)⟩
         have h3:¬ (l[i - 1].ID < l[i].ID):=fun h=>hg ⟨⟨h1,h2⟩,fun _=>h⟩
         refine ⟨43,by omega,zgs _ _ ?_⟩; simp (disch:=omega) [zaD,zan,w64_id,zfF h0,ziR _ hp,zbw h1,zju _ hp,zbw h2]; rfl
       · refine ⟨43,by omega,zgs _ _ ?_⟩; simp (disch:=omega) [zaD,zan,ziR _ hp,zbw h1,zju _ hp,zbq h2]; rfl
     · refine ⟨2,by omega,zgs _ _ ?_⟩; simp (disch:=omega) [zaD,zan,ziR _ hp,zbq h1]; rfl
   · intro i hi y hg hk; have hp:=hs _ (zbi hi); obtain ⟨⟨h1,h2⟩,h3⟩:=hg; refine zgs _ _ ?_; by_cases h0:0 < i
     · have h4:=h3 h0; simp (disch:=omega) [zaD,zaO,zan,w64_id,zfF h0,ziR _ hp,zbw h1,zju _ hp,zbw h2,hk]
     · simp (disch:=omega) [zaD,zaO,zan,w64_id,ziR _ hp,zbw h1,zju _ hp,zbw h2,hk]
 · refine ⟨3,zrG l ?_,by omega,fun h=>absurd h.1 hl⟩; simp (disch:=omega) [zaD]; rfl
theorem zzJ {l:List zaR} (hl:l.length≤60):(∀ j (hj:j < l.length),zr5 l[j]∧∀ h:0 < j,(l[j - 1]'(by omega)).Number < l[j].Number)↔zn5 l:=by unfold zn5; rw [← zrw,← znw]; exact ⟨fun h=>⟨hl,fun j hj=>(h j hj).1,fun j hj=>(h j hj).2⟩,fun h j hj=>⟨h.2.1 j hj,h.2.2 j hj⟩⟩
theorem zrB (l:List zaR):∃ e,cw zhN [.sl 7 (List.map za0 l)] []=some (zbh e)∧(e=0↔zn5 l):=by
 by_cases hl:l.length≤60
 · have H:=all_err l.length (fun j hj=>zr5 l[j]∧∀ h:0 < j,(l[j - 1]'(by omega)).Number < l[j].Number) (fun i=>zd6 l i) (fun e=>zbh e) ?_ ?_ ?_
   · obtain ⟨e,h1,h2⟩:=H; exact ⟨e,zme l (by simp (disch:=omega) [zaO,h1]),h2.trans (zzJ hl)⟩
   · exact zdi _ _ (by simp (disch:=omega) [zaO] <;> rfl)
   · intro i hi hg; by_cases h1:zr5 l[i]
     · have h0:0 < i:=by
        apply zwh
        rintro rfl
        exact hg ⟨h1,fun h=>absurd h (by omega)⟩
       have h3:¬ (l[i - 1].Number < l[i].Number):=fun h=>hg ⟨h1,fun _=>h⟩
       refine ⟨43,by omega,zdi _ _ ?_⟩; obtain ⟨a1,a2,a3,a4,a5,a6⟩:=h1; simp (disch:=omega) [zaD,zaO,zan,w64_id,zfF h0,zew,zbw a1]; rw [← a5]; simp; rfl
     · by_cases a1:0≤l[i].Paper∧l[i].Paper≤31
       · by_cases a2:(0≤l[i].Candidate∧l[i].Candidate≤9999)∧(0≤l[i].Centre∧l[i].Centre≤99)∧(0≤l[i].Variant∧l[i].Variant≤31)
         · refine ⟨1,by omega,zdi _ _ ?_⟩; simp (disch:=omega) [zaD,zaO,zan,w64_id,zew,zbw a1]; by_cases a3:l[i].Number=l[i].Paper*10000+l[i].Candidate
           · have a4:12 < (l[i].Pages.length:Int):=by apply Int.not_le.1; intro h; exact h1 ⟨a1,a2.1,a2.2.1,a2.2.2,a3,by omega⟩
             simp (disch:=omega) [a3,zaD]; rfl
           · simp [show (l[i].Number != l[i].Paper*10000+l[i].Candidate)=true by simpa using a3]; rfl
         · refine ⟨2,by omega,zdi _ _ ?_⟩; simp (disch:=omega) [zaD,zan,zew,zbw a1]; simp only [zeC,decide_eq_true_eq]
           repeat' split
           all_goals first
            | rfl
            | omega
       · refine ⟨2,by omega,zdi _ _ ?_⟩; simp (disch:=omega) [zaD,zan,zew,zbq a1]; rfl
   · intro i hi y hg hk; obtain ⟨h1,h3⟩:=hg; refine zdi _ _ ?_; obtain ⟨a1,a2,a3,a4,a5,a6⟩:=h1; by_cases h0:0 < i
     · have h4:=h3 h0; simp (disch:=omega) [zaD,zaO,zan,w64_id,zfF h0,zew,zbw a1,← a5,hk]
     · simp (disch:=omega) [zaD,zaO,zan,w64_id,zew,zbw a1,← a5,hk]
 · refine ⟨3,zme l ?_,by omega,fun h=>absurd h.1 hl⟩; simp (disch:=omega) [zaD]; rfl
theorem c_isScore (n:Int):cw zhB [I n] []=some (zai (dec (0≤n∧n≤200))):=by
 refine zvq n ?_; simp only [zeC,decide_eq_true_eq]; split
 · rw [show decide (n≤200)=dec (0≤n∧n≤200) from zih (by simp only [decide_eq_true_eq]; omega)]; rfl
 · rw [zbq (by omega)]; rfl
theorem zmy (r:za6) (h:OkMon r):cw zgW [.agg (zbG r)] []=some (zbh 0):=by obtain ⟨h1,h2,h3,h4⟩:=h; refine zxF r ?_; simp (disch:=omega) [zaO,c_isScore,zbw h1,zbw h2]; rfl
theorem zxk (l:List Int) (n:Int) (hl:l.length≤1000000):cw zeJ [.sl 1 (List.map zaj l),I n] []=some (zai (dec (n∈l))):=by
 refine zoX l n ?_; have key:=zir l (fun x=>n == x) (fun i=>zeW l n i) (fun o=>zbh (match o with | some (i,_)=>(i:Int) | none=>-1)) ?_ ?_ ?_
 · rw [zqY l n key,za4]
   cases hf:fnd (fun x=>n == x) 0 l with
   | none=>rw [zbq (fun h=>by have:=znH.1 hf n h; simp at this)]; rfl
   | some q =>
     obtain ⟨i,x⟩:=q; obtain ⟨h1,h2,_⟩:=fnd_at hf; have:n=x:=by simpa using h2
     subst this; rw [zbw (zbU h1)]; show some (B (decide (0≤(i:Int))),[])=_; rw [show decide (0≤(i:Int))=true by simp]; rfl
 · exact zgu _ _ _ (by simp (disch:=omega) [zaO] <;> rfl)
 · intro i hi h; refine zgu _ _ _ ?_; simp (disch:=omega) [zaD,zan,h]; rfl
 · intro i hi y h hk; refine zgu _ _ _ ?_; simp (disch:=omega) [zaD,zan,w64_id,h,hk]
def accB (x:GPart) (ks:List Int) (v:Int):Bool:=if ks=[] then v == x.Key else dec (v∈ks)
theorem zt4 (x:GPart) (ks:List Int) (v:Int) (hl:ks.length≤1000000):cw zlU [.agg (zaQ x),.sl 1 (List.map zaj ks),I v] []=some (zai (accB x ks v)):=by
 refine zwK x ks v ?_; unfold accB; by_cases h:ks=[]
 · rw [if_pos h,h]; rfl
 · rw [if_neg h]; have:((ks.length:Int) == 0)=false:=by simpa using h
   simp only [zam,this,zat,zxk _ _ hl,zao]; rfl
def zj1 (p:zaG) (s:zbt) (a:List Int) (j:Nat):Int:=
 match p.Parts[j]?,s.Keys[j]?,a[j]? with
 | some x,some ks,some v=>if x.Kind=1 then -2 else if accB x ks v=true then x.Max else if v=-1 then -1 else 0
 | _,_,_=>0
def zrD (p:zaG) (s:zbt) (a:List Int):List Int:=(List.range p.Parts.length).map (zj1 p s a)
theorem kind2 {x:GPart} (h:OkPart x):x.Kind=1∨x.Kind=2:=by unfold OkPart at h; omega
theorem zxo (p:zaG) (s:zbt) (a:List Int) (hs:Short s):∃ r:List Int×Int,cw zjx [.agg (zaJ p),.agg (zbY s),.sl 1 (List.map zaj a)] []=some (zeY r)∧(r.2=0↔zfW p s∧OkAns p a)∧(r.2=0→r.1=zrD p s a):=by
 by_cases hp:zfW p s
 case neg=>refine ⟨([],1),zmB p s a ?_,by simp [hp],by simp⟩; simp only [zhM p s hs,zao,zbq hp]; rfl
 obtain ⟨hP,hk,hw,hall⟩:=id hp; have hpl:=hP.2.2.1; by_cases ha:a.length=p.Parts.length
 case neg=>refine ⟨([],22),zmB p s a ?_,by simp [OkAns,ha],by simp⟩; simp only [zhM p s hs,zao,zbw hp,zbH,zat,zam,show ((a.length:Int) != p.Parts.length)=true by simpa using (by omega:¬ ((a.length:Int)=p.Parts.length)),zaF]; rfl
 have start:∀ y,zdD p s a 0=some y→cw zjx [.agg (zaJ p),.agg (zbY s),.sl 1 (List.map zaj a)] []=some y:=by intro y hy; refine zmB p s a ?_; simp only [zhM p s hs,zao,zbw hp,zbH,zat,zam,ha,bne_self_eq_false,hy]
 have second:zdE p s a (List.map zaj (List.replicate p.Parts.length 0)) 0=some (zeY (zrD p s a,0)):=by
  rw [← mkN_zero p.Parts.length (zj1 p s a) 0]; have:=zdV p.Parts (fun i r=>zdE p s a (List.map zaj (mkN p.Parts.length (zj1 p s a) 0 i.toNat)) i=some (zeY (zrD p s a,0))) ?_ ?_
  · exact this
  · refine zoS _ _ _ _ _ ?_; simp (disch:=omega) only [zam,zaO,za2,mkN_all,zl6,aLiAs16,zan,zjV,zrD.eq_1]; rw [show List.take p.Parts.length (List.map zaj (List.map (zj1 p s a) (List.range p.Parts.length)))=List.map zaj (List.map (zj1 p s a) (List.range p.Parts.length)) from zcs (by simp)]; rfl
  · intro i hi r hr ih; have hi1:i < s.Keys.length:=by omega
    have hi2:i < a.length:=by omega
    have hkl:=hs _ (zbi hi1); refine zoS _ _ _ _ _ ?_
    have hc:zj1 p s a i=if p.Parts[i].Kind=1 then -2 else if accB p.Parts[i] s.Keys[i] a[i]=true then p.Parts[i].Max else if a[i]=-1 then -1 else 0:=by simp [zj1,hi,hi1,hi2]
    have e1:((i:Int)+1).toNat=i+1:=by omega
    rw [e1] at ih; have hgi:(mkN p.Parts.length (zj1 p s a) 0 i)[i]?=some 0:=mkN_get hi; rcases kind2 (hP.2.2.2.1 _ (zbi hi)) with h1 | h1
    · rw [if_pos h1] at hc; simp (disch:=omega) [zaD,zan,h1,w64_id,hgi,zkl,zuW hc.symm,-List.map_set,ih]
    · rw [iNQ] at hc
      cases hb:accB p.Parts[i] s.Keys[i] a[i] with
      | true=>rw [if_pos hb] at hc; simp (disch:=omega) [zaD,zan,h1,w64_id,hgi,zkl,zuW hc.symm,-List.map_set,ih,zt4 _ _ _ hkl,hb]
      | false =>
        rw [if_neg (by rw [hb]; simp)] at hc; by_cases h2:a[i]=-1
        · rw [if_pos h2] at hc; simp (disch:=omega) [zaD,zan,h1,w64_id,hgi,zkl,zuW hc.symm,-List.map_set,ih,zt4 _ _ _ hkl,hb,← h2]; simp (disch:=omega) [h2,zkl,zuW hc.symm,-List.map_set,ih]
        · rw [if_neg h2] at hc; simp (disch:=omega) [zaD,zan,h1,w64_id,mkN_same hc,ih,zt4 _ _ _ hkl,hb,show (a[i] == -1)=false by simpa using h2]
 have hfst:∀ j (hj:j < p.Parts.length),(p.Parts[j].Kind≠1→-2≤a[j]'(by omega)∧a[j]'(by omega) < p.Parts[j].Options)↔(p.Parts[j].Kind=2→-2≤a[j]'(by omega)∧a[j]'(by omega) < p.Parts[j].Options):=by intro j hj; have:=kind2 (hP.2.2.2.1 _ (zbi hj)); omega
 have H:=znv p.Parts.length (fun j hj=>p.Parts[j].Kind≠1→-2≤a[j]'(by omega)∧a[j]'(by omega) < p.Parts[j].Options) (fun i=>zdD p s a i) (fun y=>y=zeY ([],2)) (zeY (zrD p s a,0)) ?_ ?_ ?_
 · rcases H with ⟨h1,h2⟩ | ⟨⟨j,hj,h1⟩,y,rfl,h3⟩
   · refine ⟨_,start _ h2,⟨fun _=>⟨hp,ha,fun j x v q1 q2 q3=>?_⟩,fun _=>rfl⟩,fun _=>rfl⟩; obtain ⟨hj,rfl⟩:=zbu.1 q1; obtain ⟨_,rfl⟩:=zbu.1 q2; exact h1 j hj q3
   · refine ⟨_,start _ h3,⟨fun h=>by simp at h,fun h=>?_⟩,fun h=>by simp at h⟩; exact absurd (fun q3=>h.2.2 j _ _ (zaB hj) (zaB (by omega)) q3) h1
 · intro _; refine zlg _ _ _ _ ?_; rw [← map_rep] at second; simp (disch:=omega) only [zam,zaO,zan,zbf,za2,second]
 · intro i hi _ hn; have hi2:i < a.length:=by omega
   refine ⟨_,rfl,zlg _ _ _ _ ?_⟩; rcases kind2 (hP.2.2.2.1 _ (zbi hi)) with h1 | h1
   · exact absurd (fun h=>absurd h1 h) hn
   · have h2:¬ (-2≤a[i]∧a[i] < p.Parts[i].Options):=fun h=>hn (fun _=>h)
     have hop:2≤p.Parts[i].Options:=by have:=(hP.2.2.2.1 _ (zbi hi)); unfold OkPart at this; omega
     have h3:a[i]≠-1:=fun h=>h2 (by omega)
     have h4:a[i]≠-2:=fun h=>h2 (by omega)
     by_cases h5:a[i] < 0
     · simp (disch:=omega) [zaD,zan,h1,show (a[i] != -1)=true by simpa using h3,show (a[i] != -2)=true by simpa using h4]; rfl
     · simp (disch:=omega) [zaD,zaO,zan,h1,show (a[i] != -1)=true by simpa using h3,show (a[i] != -2)=true by simpa using h4]; rfl
 · intro i hi y hg hk'; have hi2:i < a.length:=by omega
   refine zlg _ _ _ _ ?_; rcases kind2 (hP.2.2.2.1 _ (zbi hi)) with h1 | h1
   · simp (disch:=omega) [zaD,zan,h1,w64_id,hk']
   · have h2:=hg (by omega); by_cases h3:a[i]=-1
     · simp (disch:=omega) [zaD,zan,h1,w64_id,h3,hk']
     · by_cases h4:a[i]=-2
       · simp (disch:=omega) [zaD,zan,h1,w64_id,h4,hk']
       · simp (disch:=omega) [zaD,zaO,zan,h1,show (a[i] != -1)=true by simpa using h3,show (a[i] != -2)=true by simpa using h4,w64_id,hk']
def zAY:zaR:=⟨0,0,0,0,0,[],[]⟩
def ixR:Option (Nat×zaG)→Int×Bool
 | some (i,_)=>((i:Int),true)
 | none=>(0,false)
def scR:Option zaR→zaR×Bool
 | some x=>(x,true)
 | none=>(zAY,false)
theorem zss (s:zaz) (n:Int) (hl:s.Scripts.length≤1000000):cw zfK [.agg (zaq s),I n] []=some (zkN (scR (zhu s.Scripts n))):=by
 refine zug s n ?_; have key:=zir s.Scripts (fun x=>x.Number == n) (fun i=>zf5 s n i) (fun o=>zkN (scR (o.map (·.2)))) ?_ ?_ ?_
 · exact key
 · exact ziL _ _ _ (by simp (disch:=omega) [zaO] <;> rfl)
 · intro i hi h; refine ziL _ _ _ ?_; simp (disch:=omega) [zaD,zan,h]; rfl
 · intro i hi y h hk; refine ziL _ _ _ ?_; simp (disch:=omega) [zaD,zan,w64_id,h,hk]
theorem zt5 (s:zaz) (x:zaR) (hl:s.Papers.length≤1000000):cw zf0 [.agg (zaq s),.agg (za0 x)] []=some (ziX (ixR (zfU s.Papers x))):=by
 refine zvo s x ?_; have key:=zir s.Papers (fun p=>p.Code == x.Paper && p.Variant == x.Variant) (fun i=>zff s x i) (fun o=>ziX (ixR o)) ?_ ?_ ?_
 · exact key
 · exact zjs _ _ _ (by simp (disch:=omega) [zaO] <;> rfl)
 · intro i hi h; refine zjs _ _ _ ?_; rw [zbX] at h; simp (disch:=omega) [zaD,zan,h.1,h.2]; rfl
 · intro i hi y h hk; refine zjs _ _ _ ?_
   cases h1:(s.Papers[i].Code == x.Paper) with
   | false=>simp (disch:=omega) [zaD,zan,w64_id,h1,hk]
   | true=>rw [h1,zjS] at h; simp (disch:=omega) [zaD,zan,w64_id,h1,h,hk]
theorem c_PaperOf (s:zaz) (n:Int) (h1:s.Scripts.length≤1000000) (h2:s.Papers.length≤1000000):cw zlb [.agg (zaq s),I n] []=some (ziX (ixR (znN s n))):=by
 refine zvn s n ?_; rw [zss s n h1,zhj]; unfold znN
 cases zhu s.Scripts n with
 | none=>rfl
 | some x=>simp only [scR,zbH,zat,zt5 s x h2,zl8,zaX]; rfl
theorem zAm (p:zaG) (m:List Int) (hl:p.Parts.length≤1000000) (h:zrd p m):cw zio [.agg (zaJ p),.sl 1 (List.map zaj m)] []=some (zai true):=by
 obtain ⟨h1,h2⟩:=h; refine zsG p m ?_; simp only [zam,h1,bne_self_eq_false,zat]; refine zdV p.Parts (fun i r=>zfC p m i=some (zai true)) ?_ ?_
 · exact zlz _ _ _ (by simp (disch:=omega) [zaO] <;> rfl)
 · intro i hi r hr ih; have hi2:i < m.length:=by omega
   have:=h2 i _ _ (zaB hi) (zaB hi2); refine zlz _ _ _ ?_; simp (disch:=omega) [zaD,zaO,zan,w64_id,ih]
theorem ziw {ps:List zaG} {x:zaR} {k:Nat} {p:zaG} (hk:zfU ps x=some (k,p)):ps[k]?=some p∧p.Code=x.Paper∧p.Variant=x.Variant:=by obtain ⟨h1,h2,_⟩:=fnd_at hk; simp only [zbX,beq_iff_eq] at h2; exact ⟨h1,h2⟩
theorem zAI {l:List zaR} (h:AscBy zaR.Number l) {x:zaR} (hx:x∈l):zhu l x.Number=some x:=by
 obtain ⟨i,hi,rfl⟩:=zne.1 hx; unfold zhu
 rw [fnd_of (j:=i) (x:=l[i]) (zaB hi) (by simp) (fun k y hk hy=>by
  obtain ⟨hk',rfl⟩:=zbu.1 hy; have:=asc_lt h k i hi hk; simp only [beq_eq_false_iff_ne]
  omega)]
 rfl
theorem paperOf_at {s:zaz} {n:Int} {k:Nat} {p:zaG} (hk:znN s n=some (k,p)):s.Papers[k]?=some p:=by
 unfold znN at hk
 cases hx:zhu s.Scripts n with
 | none=>simp [hx] at hk
 | some x=>rw [hx] at hk; exact (ziw hk).1
section
variable {s:zaz} (h:zds s)
include h
theorem zds.okPaper {k:Nat} {p:zaG} (hk:s.Papers[k]?=some p):zi2 p:=by have hlt:=(zbu.1 hk).1; have:=h.len; exact (h.schemes k p _ hk (zaB (by omega))).1
theorem zzx:cw zhO [.agg (zaq s)] []=some (zai true):=by
 have hp:=h.papers; have hl:=h.len; refine zrI s ?_; simp (disch:=omega) only [zam,zaO,hl,bne_self_eq_false,zat]; refine zdV s.Papers (fun i r=>zfc s i=some (zai true)) ?_ ?_
 · exact zk2 _ _ (by simp (disch:=omega) [zaO] <;> rfl)
 · intro i hi r hr ih; have hi2:i < s.Schemes.length:=by omega
   have hv:=h.schemes i _ _ (zaB hi) (zaB hi2); refine zk2 _ _ ?_; simp (disch:=omega) [zaD,zan,w64_id,zhM _ _ (h.short _ (zbi hi2)),zbw hv,ih]
theorem zyn:cw zhl [.agg (zaq s)] []=some (zai true):=by
 have hp:=h.papers; have hl:=h.len; have hsl:=h.scripts.1; refine zqW s ?_; refine zdV s.Scripts (fun i r=>zeT s i=some (zai true)) ?_ ?_
 · exact zku _ _ (by simp (disch:=omega) [zaO] <;> rfl)
 · intro i hi r hr ih; obtain ⟨k,p,c,q1,q2,q3⟩:=h.script _ (zbi hi); have hpk:=(ziw q1).1; obtain ⟨w,hw,hw1,hw2⟩:=zxo p c s.Scripts[i].Answers (h.short _ (zbU q2)); have hw0:w.2=0:=hw1.2 ⟨h.schemes k p c hpk q2,q3⟩; refine zku _ _ ?_; simp (disch:=omega) [zaD,zan,w64_id,zt5 s _ (by omega),q1,ixR,hpk,q2,hw,hw0,ih]
theorem zAn:cw ziq [.agg (zaq s)] []=some (zai true):=by
 have hp:=h.papers; have hl:=h.seeds; have hsl:=h.scripts.1; refine zsH s ?_; simp (disch:=omega) only [zam,zaO]; refine zdV s.Seeds (fun i r=>zfD s i=some (zai true)) ?_ ?_
 · exact zlA _ _ (by simp (disch:=omega) [zaO] <;> rfl)
 · intro i hi r hr ih; obtain ⟨k,p,q1,q2⟩:=h.seed _ (zbi hi); have hpk:=paperOf_at q1; have hpl:=(h.okPaper hpk).2.2.1
   have rest:zeM s i s.Seeds[i]=some (zai true):=by refine zpc _ _ _ ?_; simp (disch:=omega) [zan,w64_id,c_PaperOf s _ (by omega) (by omega),q1,ixR,hpk,zAm _ _ (by omega) q2,ih]
   refine zlA _ _ ?_; by_cases h0:0 < i
   · have:=zrw.2 h.asc i hi h0; simp (disch:=omega) [zaD,zaO,zan,w64_id,zfF h0,rest]
   · simp (disch:=omega) [zaD,zaO,zan,rest]
theorem zqr:cw zgU [.agg (zaq s)] []=some (zbh 0):=by obtain ⟨e1,h1,h2⟩:=zyl s.Markers h.short2; obtain ⟨e2,h3,h4⟩:=zrB s.Scripts; have g1:=h2.2 h.markers; have g2:=h4.2 h.scripts; subst g1 g2; refine zxC s ?_; simp only [h1,h3,za4,za4,zzx h,zyn h,zAn h,zmy _ h.monitor,zao,zao,zao,za4,bne_self_eq_false,zbH,zat]; rfl
end
def DOk (d:zae):Prop:=0≤d.At∧d.L.length≤600
abbrev mD (d:zae):Mem:=[(1000,⟨2,zaf,[zar d],true⟩)]
theorem tmod_lt {a n:Int} (hn:0 < n):-n < a.tmod n∧a.tmod n < n:=by have h1:=Int.tmod_lt_of_pos a hn; refine ⟨?_,h1⟩; have h2:=Int.tmod_lt_of_pos (-a) hn; rw [Int.neg_tmod] at h2; omega
theorem c_Light (t:List Int):cw zpW [.sl 1 (List.map zaj t)] []=some (zai (decide ((t.length:Int)≤600))):=
 zAs t (by rw [zam]; rfl)
theorem c_Roll (t:List Int):cw zq0 [.sl 1 (List.map zaj t)] []=some (zq7 ⟨t,0⟩):=zBa t rfl
theorem zcg (d:zae) (n:Int) (hd:DOk d) (hn:n≤4611686018427387904):∃ (r:Int) (d':zae),cw zaV [.loc 1000 2 0 0,I n] (mD d)=some (zix (r,d'))∧0≤r∧(r < n∨r=0)∧DOk d':=by
 by_cases h1:(d.L.length:Int)≤d.At
 · refine ⟨0,d,zii d n ?_,by omega,.inr rfl,hd⟩; simp (disch:=omega) only [zam,zaD]; rfl
 by_cases h2:n < 1
 · refine ⟨0,d,zii d n ?_,by omega,.inr rfl,hd⟩; simp (disch:=omega) only [zam,zaD,zaO]; rfl
 obtain ⟨ha,hl⟩:=hd; have hlt:d.At.toNat < d.L.length:=by omega
 have hb:=tmod_lt (a:=d.L[d.At.toNat]) (n:=n) (by omega); have hd':DOk ⟨d.L,d.At+1⟩:=⟨by show 0≤d.At+1; omega,hl⟩
 by_cases h3:(d.L[d.At.toNat]).tmod n < 0
 · refine ⟨(d.L[d.At.toNat]).tmod n+n,⟨d.L,d.At+1⟩,zii d n ?_,by omega,.inl (by omega),hd'⟩; simp (disch:=omega) [zaD,zaO,zan,hlt,w64_id]; rfl
 · refine ⟨(d.L[d.At.toNat]).tmod n,⟨d.L,d.At+1⟩,zii d n ?_,by omega,.inl (by omega),hd'⟩; simp (disch:=omega) [zaD,zaO,zan,hlt,w64_id]; rfl
theorem zry (d:zae) (n:Int) (hd:DOk d) (hn:n≤4611686018427387904):∃ (r:Bool) (d':zae),cw zdR [.loc 1000 2 0 0,I n] (mD d)=some (zlX (r,d'))∧DOk d':=by obtain ⟨r,d',h,_,_,hd'⟩:=zcg d n hd hn; exact ⟨_,d',zwB d n (by simp only [h,zaU]; rfl),hd'⟩
theorem c_Pick (d:zae) (l:List Int) (hd:DOk d) (hl:l≠[]) (hl2:l.length≤1000):∃ (r:Int) (d':zae),cw zfq [.loc 1000 2 0 0,.sl 1 (List.map zaj l)] (mD d)=some (zix (r,d'))∧r∈l∧DOk d':=by
 obtain ⟨r,d',h,h0,h1,hd'⟩:=zcg d l.length hd (by omega); have hpos:0 < l.length:=List.length_pos_iff.2 hl; have hlt:r.toNat < l.length:=by omega
 refine ⟨l[r.toNat],d',zwD d l ?_,zbi hlt,hd'⟩; simp (disch:=omega) only [zam,h,zaU,zan,zcy,zaB hlt,zaX]; rfl
def DPaper (p:zaG):Prop:=p.Parts.length≤3∧1≤p.Parts.length∧(∀ x∈p.Parts,OkPart x∧x.Max≤6)∧∃ y,p.Parts[0]?=some y∧y.Kind=1∧3≤y.Max
theorem DPaper.ok {p:zaG} (h:DPaper p) (h1:0≤p.Code∧p.Code≤31) (h2:0≤p.Variant∧p.Variant < 4):zi2 p:=by obtain ⟨a,b,c,_⟩:=h; refine ⟨h1,h2,by omega,fun x hx=>(c x hx).1,?_⟩; have:=(zuJ (fun x hx=>(c x hx).1)).2; omega
theorem zuU (d:zae) (a b:Int) (hd:DOk d):∃ (p:zaG) (d':zae),cw zdA [.loc 1000 2 0 0,I a,I b] (mD d)=some (zld (p,d'))∧p.Code=a∧p.Variant=b∧DPaper p∧DOk d':=by
 obtain ⟨n0,d0,e0,a0,b0,hd0⟩:=zcg d 4 hd (by omega); obtain ⟨n1,d1,e1,a1,b1,hd1⟩:=zcg d0 3 hd0 (by omega); by_cases h1:0 < n1
 · obtain ⟨n2,d2,e2,a2,b2,hd2⟩:=zcg d1 2 hd1 (by omega); obtain ⟨n3,d3,e3,a3,b3,hd3⟩:=zcg d2 4 hd2 (by omega); obtain ⟨n4,d4,e4,a4,b4,hd4⟩:=zcg d3 2 hd3 (by omega)
   have start:∀ y,zhn a b (n0,d0) (n2,d2) (n3,d3)=some y→cw zdA [.loc 1000 2 0 0,I a,I b] (mD d)=some y:=by intro y hy; refine zoO d a b ?_; simp (disch:=omega) only [e0,e1,e2,e3,zaU,zaD,zan,zbf,hy]
   by_cases h4:0 < n4
   · obtain ⟨n5,d5,e5,a5,b5,hd5⟩:=zcg d4 4 hd4 (by omega); refine ⟨⟨a,b,[⟨1,3+n0,0,0,0,0⟩,⟨2,1+n2,0,0,4,n3⟩,⟨1,2+n5,0,0,0,0⟩]⟩,d5,start _ (zly _ _ _ _ _ ?_),rfl,rfl,⟨by simp,by simp,?_,_,rfl,rfl,by dsimp only; omega⟩,hd5⟩
     · simp (disch:=omega) only [e4,e5,zaU,zaD,zan,zbf,w64_id]; rfl
     · intro x hx; simp only [za7,zc4,or_false] at hx; rcases hx with rfl | rfl | rfl <;> exact ⟨by unfold OkPart; dsimp only; omega,by dsimp only; omega⟩
   · refine ⟨⟨a,b,[⟨1,3+n0,0,0,0,0⟩,⟨2,1+n2,0,0,4,n3⟩]⟩,d4,start _ (zly _ _ _ _ _ ?_),rfl,rfl,⟨by simp,by simp,?_,_,rfl,rfl,by dsimp only; omega⟩,hd4⟩
     · simp (disch:=omega) only [e4,zaU,zaO,zan,zbf,w64_id]; rfl
     · intro x hx; simp only [za7,zc4,or_false] at hx; rcases hx with rfl | rfl <;> exact ⟨by unfold OkPart; dsimp only; omega,by dsimp only; omega⟩
 · obtain ⟨n4,d4,e4,a4,b4,hd4⟩:=zcg d1 2 hd1 (by omega)
   have start:∀ y,zgm a b (n0,d0) (n1,d1)=some y→cw zdA [.loc 1000 2 0 0,I a,I b] (mD d)=some y:=by intro y hy; refine zoO d a b ?_; simp (disch:=omega) only [e0,e1,zaU,zaO,hy]
   by_cases h4:0 < n4
   · obtain ⟨n5,d5,e5,a5,b5,hd5⟩:=zcg d4 4 hd4 (by omega); refine ⟨⟨a,b,[⟨1,3+n0,0,0,0,0⟩,⟨1,2+n5,0,0,0,0⟩]⟩,d5,start _ (zkr _ _ _ _ ?_),rfl,rfl,⟨by simp,by simp,?_,_,rfl,rfl,by dsimp only; omega⟩,hd5⟩
     · simp (disch:=omega) only [e4,e5,zaU,zaD,zan,zbf,w64_id]; rfl
     · intro x hx; simp only [za7,zc4,or_false] at hx; rcases hx with rfl | rfl <;> exact ⟨by unfold OkPart; dsimp only; omega,by dsimp only; omega⟩
   · refine ⟨⟨a,b,[⟨1,3+n0,0,0,0,0⟩]⟩,d4,start _ (zkr _ _ _ _ ?_),rfl,rfl,⟨by simp,by simp,?_,_,rfl,rfl,by dsimp only; omega⟩,hd4⟩
     · simp (disch:=omega) only [e4,zaU,zaO,zan,zbf,w64_id]; rfl
     · intro x hx; simp only [za7,zc4,or_false] at hx; subst hx; exact ⟨by unfold OkPart; dsimp only; omega,by dsimp only; omega⟩
theorem c_Scheme (d:zae) (p:zaG) (hd:DOk d) (hp:DPaper p) (hok:zi2 p):∃ (c:zbt) (d':zae),cw zj4 [.loc 1000 2 0 0,.agg (zaJ p)] (mD d)=some (zkn (c,d'))∧zfW p c∧Short c∧DOk d':=by
 have hl:=hp.1; have hl2:=hp.2.1; obtain ⟨b,d0,e0,hd0⟩:=zry d 6 hd (by omega)
 have good:∀ W:List Int,W.length=p.Parts.length→(∀ k∈W,0≤k∧k≤2)→zfW p ⟨List.replicate p.Parts.length [],W⟩∧Short ⟨List.replicate p.Parts.length [],W⟩:=by
  intro W hW hk; refine ⟨⟨hok,by simp,hW,fun j x ks k q1 q2 q3=>⟨?_,hk k (zbU q3)⟩⟩,?_⟩
  · have:=zbU q2; rw [zsb] at this; rw [this.2]; exact ⟨by simp,fun j hj=>by simp at hj⟩
  · intro ks hks; rw [zsb] at hks; rw [hks.2]; simp
 cases b with
 | true =>
   obtain ⟨n1,d1,e1,a1,b1,hd1⟩:=zcg d0 p.Parts.length hd0 (by omega); obtain ⟨n2,d2,e2,a2,b2,hd2⟩:=zcg d1 2 hd1 (by omega); have hlt:n1.toNat < p.Parts.length:=by omega
   obtain ⟨g1,g2⟩:=good ((List.replicate p.Parts.length 0).set n1.toNat (1+n2)) (by simp) (by
    intro k hk; rcases aLiAs54 hk with h | h
    · rw [zsb] at h; omega
    · omega)
   refine ⟨_,d2,zog d p ?_,g1,g2,hd2⟩; have hlt':n1.toNat < (List.replicate p.Parts.length (0:Int)).length:=by simpa using hlt
   simp (disch:=omega) only [zam,zan,zbf,e0,e1,e2,zbZ,zaU,zaF,za2,zl6,zbO,map_rep zaj,zcy,zaB hlt',zaX]; refine zql _ _ _ _ _ ?_; simp (disch:=omega) only [zam,zan,zbf,za2,zl6,zbO,zpB,zbL,w64_id]; rw [show List.take p.Parts.length (List.replicate p.Parts.length [AV.sl 1 []])=List.replicate p.Parts.length [AV.sl 1 []] from zcs (by simp),zcs (Nat.le_of_eq (by simp only [zpB,zl6]))]; rw [show List.replicate p.Parts.length [AV.sl 1 []]=List.map zcV (List.replicate p.Parts.length []) by simp [zcV],show List.replicate p.Parts.length [I 0]=List.map zaj (List.replicate p.Parts.length 0) by simp [zaj],show [I (1+n2)]=zaj (1+n2) from rfl,zkl]; rfl
 | false =>
   obtain ⟨g1,g2⟩:=good (List.replicate p.Parts.length 0) (by simp) (by
    intro k hk
    rw [zsb] at hk; omega)
   refine ⟨_,d0,zog d p ?_,g1,g2,hd0⟩; simp (disch:=omega) only [zam,zan,zbf,e0,zbZ,zat,za2]; refine zo8 _ _ ?_; simp (disch:=omega) only [zam,zan,zbf,za2,zl6,zbO,zbL]; rw [show List.take p.Parts.length (List.replicate p.Parts.length [AV.sl 1 []])=List.replicate p.Parts.length [AV.sl 1 []] from zcs (by simp),zcs (Nat.le_of_eq (by simp only [zpB,zl6]))]; rw [show List.replicate p.Parts.length [AV.sl 1 []]=List.map zcV (List.replicate p.Parts.length []) by simp [zcV],show List.replicate p.Parts.length [I 0]=List.map zaj (List.replicate p.Parts.length 0) by simp [zaj]]; rfl
def zkw (ps:List zaG):Prop:=1≤ps.length∧ps.length≤3∧(∀ p∈ps,DPaper p∧(0≤p.Code∧p.Code≤1)∧(0≤p.Variant∧p.Variant≤1))∧∀ p∈ps,∀ q∈ps,p.Code=q.Code→p.Variant=q.Variant→p=q
def zqp (ps:List zaG) (cs:List zbt):Prop:=∀ (j:Nat) (p:zaG) (c:zbt),ps[j]?=some p→cs[j]?=some c→zfW p c∧Short c
theorem c_Papers (d:zae) (hd:DOk d):∃ (ps:List zaG) (cs:List zbt) (d':zae),cw zfJ [.loc 1000 2 0 0] (mD d)=some (zfM ((ps,cs),d'))∧zkw ps∧cs.length=ps.length∧zqp ps cs∧DOk d':=by
 have loop:∀ (ps:List zaG),zkw ps→∀ (d:zae),DOk d→∃ (cs:List zbt) (d':zae),zcQ (List.map zaJ ps) (List.map zbY []) d 0=some (zfM ((ps,cs),d'))∧cs.length=ps.length∧zqp ps cs∧DOk d':=by
  intro ps hps d hd; have hpl:=hps.2.1; refine zdV ps (fun i r=>∀ (cs:List zbt) (d:zae),(cs.length:Int)=i→zqp ps cs→DOk d→∃ (cs':List zbt) (d':zae),zcQ (List.map zaJ ps) (List.map zbY cs) d i=some (zfM ((ps,cs'),d'))∧cs'.length=ps.length∧zqp ps cs'∧DOk d') ?_ ?_ [] d (by simp) (by intro j p c _ h; simp at h) hd
  · intro cs d hcs hok hd; refine ⟨cs,d,zmY _ _ _ _ ?_,by omega,hok,hd⟩; simp (disch:=omega) only [zam,zaO,zbO,zbL,zbf]; rw [zcs (by simp),zcs (by simp)]; rfl
  · intro i hi r hr ih cs d hcs hok hd; obtain ⟨g1,g2,g3⟩:=hps.2.2.1 _ (zbi hi); obtain ⟨c,d1,e1,o1,o2,hd1⟩:=c_Scheme d ps[i] hd g1 (g1.ok (by omega) (by omega))
    obtain ⟨cs',d',e2,o3,o4,hd'⟩:=ih (cs++[c]) d1 (by simp; omega) (by
     intro j p c' hp hc; by_cases hj:j < cs.length
     · rw [zng hj] at hc; exact hok j p c' hp hc
     · have hjl:=(zbu.1 hc).1; simp at hjl; have hji:j=cs.length:=by omega
       subst hji; simp at hc; subst hc; have:i=cs.length:=by omega
       subst this; rw [zaB hi] at hp; injection hp with hp; subst hp
       exact ⟨o1,o2⟩) hd1
    refine ⟨cs',d',zmY _ _ _ _ ?_,o3,o4,hd'⟩; simp (disch:=omega) only [zam,zaD,zan,zbf,zbO,za2,zfI,zaB hi,zaX,e1,zqN,w64_id,zcm,e2]
 obtain ⟨p0,d0,e0,a0,b0,g0,hd0⟩:=zuU d 0 0 hd; obtain ⟨b,d1,e1,hd1⟩:=zry d0 2 hd0 (by omega)
 cases b with
 | true =>
   obtain ⟨p2,d2,e2,a2,b2,g2,hd2⟩:=zuU d1 0 1 hd1; obtain ⟨b',d3,e3,hd3⟩:=zry d2 2 hd2 (by omega)
   have start:∀ y,zgH (p0,d0) (p2,d2)=some y→cw zfJ [.loc 1000 2 0 0] (mD d)=some y:=by intro y hy; refine zof d ?_; simp (disch:=omega) only [e0,e1,e2,zfR,zbZ,zaF,zan,zbf,hy]
   cases b' with
   | true =>
     obtain ⟨p4,d4,e4,a4,b4,g4,hd4⟩:=zuU d3 1 0 hd3
     obtain ⟨cs,d',e5,o3,o4,hd'⟩:=loop [p0,p2,p4] (by
      refine ⟨by simp,by simp,?_,?_⟩ <;> simp only [za7,zc4,or_false]
      · rintro p (rfl | rfl | rfl)
        · exact ⟨g0,by omega,by omega⟩
        · exact ⟨g2,by omega,by omega⟩
        · exact ⟨g4,by omega,by omega⟩
      · rintro p (rfl | rfl | rfl) q (rfl | rfl | rfl) h1 h2 <;> first | rfl | omega) d4 hd4
     refine ⟨[p0,p2,p4],cs,d',start _ (zk1 _ _ ?_),?_,o3,o4,hd'⟩
     · simp (disch:=omega) only [e3,e4,zfR,zbZ,zaF,zan,zbf]; exact e5
     · refine ⟨by simp,by simp,?_,?_⟩ <;> simp only [za7,zc4,or_false]
       · rintro p (rfl | rfl | rfl)
         · exact ⟨g0,by omega,by omega⟩
         · exact ⟨g2,by omega,by omega⟩
         · exact ⟨g4,by omega,by omega⟩
       · rintro p (rfl | rfl | rfl) q (rfl | rfl | rfl) h1 h2 <;> first | rfl | omega
   | false =>
     have hP:zkw [p0,p2]:=by
      refine ⟨by simp,by simp,?_,?_⟩ <;> simp only [za7,zc4,or_false]
      · rintro p (rfl | rfl)
        · exact ⟨g0,by omega,by omega⟩
        · exact ⟨g2,by omega,by omega⟩
      · rintro p (rfl | rfl) q (rfl | rfl) h1 h2 <;> first | rfl | omega
     obtain ⟨cs,d',e5,o3,o4,hd'⟩:=loop [p0,p2] hP d3 hd3; refine ⟨[p0,p2],cs,d',start _ (zk1 _ _ ?_),hP,o3,o4,hd'⟩; simp (disch:=omega) only [e3,zbZ,zat]; exact e5
 | false =>
   obtain ⟨b',d3,e3,hd3⟩:=zry d1 2 hd1 (by omega)
   have start:∀ y,zf4 (p0,d0) (false,d1)=some y→cw zfJ [.loc 1000 2 0 0] (mD d)=some y:=by intro y hy; refine zof d ?_; simp (disch:=omega) only [e0,e1,zfR,zbZ,zat,zan,zbf,hy]
   cases b' with
   | true =>
     obtain ⟨p4,d4,e4,a4,b4,g4,hd4⟩:=zuU d3 1 0 hd3
     have hP:zkw [p0,p4]:=by
      refine ⟨by simp,by simp,?_,?_⟩ <;> simp only [za7,zc4,or_false]
      · rintro p (rfl | rfl)
        · exact ⟨g0,by omega,by omega⟩
        · exact ⟨g4,by omega,by omega⟩
      · rintro p (rfl | rfl) q (rfl | rfl) h1 h2 <;> first | rfl | omega
     obtain ⟨cs,d',e5,o3,o4,hd'⟩:=loop [p0,p4] hP d4 hd4; refine ⟨[p0,p4],cs,d',start _ (zjH _ _ ?_),hP,o3,o4,hd'⟩; simp (disch:=omega) only [e3,e4,zfR,zbZ,zaF,zan,zbf]; exact e5
   | false =>
     have hP:zkw [p0]:=by
      refine ⟨by simp,by simp,?_,?_⟩ <;> simp only [za7,zc4,or_false]
      · rintro p rfl
        exact ⟨g0,by omega,by omega⟩
      · rintro p rfl q rfl h1 h2; rfl
     obtain ⟨cs,d',e5,o3,o4,hd'⟩:=loop [p0] hP d3 hd3; refine ⟨[p0],cs,d',start _ (zjH _ _ ?_),hP,o3,o4,hd'⟩; simp (disch:=omega) only [e3,zbZ,zat]; exact e5
def DMarkers (l:List za1):Prop:=2≤l.length∧l.length≤5∧zn4 l∧(∀ m∈l,m.Papers.length≤2)∧∀ m∈l,m.ID≤15
theorem c_Markers (d:zae) (hd:DOk d):∃ (l:List za1) (d':zae),cw zjl [.loc 1000 2 0 0] (mD d)=some (zgA (l,d'))∧DMarkers l∧DOk d':=by
 have asc1:∀ {l:List za1} {m:za1},AscBy za1.ID l→(∀ x∈l,x.ID < m.ID)→AscBy za1.ID (l++[m]):=by
  intro l m h1 h2 j hj; simp at hj; by_cases h:j+1 < l.length
  · rw [znh (by omega),znh h]; exact h1 j h
  · have hj':j+1=l.length:=by omega
    rw [znh (by omega),List.getElem_append_right (by omega)]; simpa using h2 _ (zbi (by omega))
 have loop:∀ (k:Nat) (l:List za1) (d:zae) (id:Int),DOk d→0≤id→id≤3*l.length→l.length+k≤5→(∀ m∈l,zh7 m∧AscBy _root_.id m.Papers)→AscBy za1.ID l→(∀ m∈l,m.ID≤id)→(∀ m∈l,m.Papers.length≤2)→∃ (l':List za1) (d':zae),zfT (List.map zaT l) d id k=some (zgA (l',d'))∧(l'.length=l.length+k∧(∀ m∈l',zh7 m∧AscBy _root_.id m.Papers)∧AscBy za1.ID l'∧(∀ m∈l',m.Papers.length≤2)∧∀ m∈l',m.ID≤15)∧DOk d':=by
  intro k
  induction k with
  | zero=>intro l d id hd h0 h1 h2 h3 h4 h5 h6; refine ⟨l,d,zmp _ _ _ _ ?_,⟨rfl,h3,h4,h6,fun m hm=>by have:=h5 m hm; omega⟩,hd⟩; simp (disch:=omega) only [zaO,zbf]; rfl
  | succ k ih =>
    intro l d id hd h0 h1 h2 h3 h4 h5 h6; obtain ⟨n0,d0,e0,a0,b0,hd0⟩:=zcg d 3 hd (by omega); obtain ⟨n1,d1,e1,a1,hd1⟩:=c_Pick d0 [-1,-1,1,2,3] hd0 (by simp) (by simp); obtain ⟨n2,d2,e2,a2,hd2⟩:=c_Pick d1 [1,1,1,2,3] hd1 (by simp) (by simp); obtain ⟨n3,d3,e3,a3,hd3⟩:=c_Pick d2 [3,2,6,0,1] hd2 (by simp) (by simp); obtain ⟨n4,d4,e4,a4,b4,hd4⟩:=zcg d3 4 hd3 (by omega); have hlt:n4.toNat < ([[0,1],[0],[1],[0,1]]:List (List Int)).length:=by simp; omega
    have hpapers:∀ q∈([[0,1],[0],[1],[0,1]]:List (List Int)),(∀ n∈q,0≤n∧n≤31)∧AscBy _root_.id q∧q.length≤2:=by
     intro q hq; simp only [za7,zc4,or_false] at hq
     have A:AscBy _root_.id ([0,1]:List Int):=fun j hj=>by
      simp at hj; have:j=0:=by omega
      subst this; show (0:Int) < 1; omega
     rcases hq with rfl | rfl | rfl | rfl
     · exact ⟨by simp,A,by simp⟩
     · exact ⟨by simp,fun j hj=>by simp at hj,by simp⟩
     · exact ⟨by simp,fun j hj=>by simp at hj,by simp⟩
     · exact ⟨by simp,A,by simp⟩
    obtain ⟨q1,q2,q3⟩:=hpapers _ (zbi hlt); simp only [za7,zc4,or_false] at a1 a2 a3
    obtain ⟨l',d',e5,o1,hd'⟩:=ih (l++[⟨id+(1+n0),n1,n2,n3,([[0,1],[0],[1],[0,1]]:List (List Int))[n4.toNat]⟩]) d4 (id+(1+n0)) hd4 (by omega) (by simp; omega) (by simp; omega)
     (by
      intro m hm; rcases zb2.1 hm with h | h
      · exact h3 m h
      · simp only [zdf] at h; subst h
        refine ⟨⟨?_,?_,?_,?_,q1⟩,q2⟩ <;> dsimp only <;> omega)
     (asc1 h4 (fun x hx=>by have:=h5 x hx; dsimp only; omega))
     (by
      intro m hm; rcases zb2.1 hm with h | h
      · have:=h5 m h; omega
      · simp only [zdf] at h; subst h
        dsimp only; omega)
     (by
      intro m hm; rcases zb2.1 hm with h | h
      · exact h6 m h
      · simp only [zdf] at h; subst h
        exact q3)
    refine ⟨l',d',zmp _ _ _ _ ?_,⟨by have:=o1.1; simp at this; omega,o1.2⟩,hd'⟩; have e6:w64 (((k+1:Nat):Int) - 1)=(k:Int):=by rw [w6Q]; omega
    simp (disch:=omega) only [zaD,e0,e1,e2,e3,e4,zaU,zaU,zan,zbf,zam,w64_id,e6]; rw [show ([zcV [0,1],zcV [0],zcV [1],zcV [0,1]]:List (List AV))=List.map zcV [[0,1],[0],[1],[0,1]] from rfl,zzF,zaB hlt,zaX]; simp (disch:=omega) only [zan,zbf,zam,w64_id,zcm,e5]
 obtain ⟨n,d0,e0,a0,b0,hd0⟩:=zcg d 4 hd (by omega); obtain ⟨l',d',e1,⟨o1,o2,o3,o4,o5⟩,hd'⟩:=loop (2+n).toNat [] d0 0 hd0 (by omega) (by simp) (by simp; omega) (by simp) (fun j hj=>by simp at hj) (by simp) (by simp); simp at o1; refine ⟨l',d',ztC d ?_,⟨by omega,by omega,⟨by omega,o2,o3⟩,o4,o5⟩,hd'⟩; simp only [e0,zaU]; rw [w6Q]; rw [aLiAs44 (by omega)] at e1; exact e1
theorem asc_snoc {α:Type} {f:α→Int} {l:List α} {m:α} (h1:AscBy f l) (h2:∀ x∈l,f x < f m):AscBy f (l++[m]):=by
 intro j hj; simp at hj; by_cases h:j+1 < l.length
 · rw [znh (by omega),znh h]; exact h1 j h
 · have hj':j+1=l.length:=by omega
   rw [znh (by omega),List.getElem_append_right (by omega)]; simpa using h2 _ (zbi (by omega))
def zlJ (n:Int) (p:zaG) (x:zaR):Prop:=
 x.Paper=p.Code∧x.Variant=p.Variant∧x.Number=p.Code*10000+x.Candidate∧(1≤x.Candidate∧x.Candidate≤n)∧(1≤x.Centre∧x.Centre≤3)∧x.Pages.length=2∧(∀ y∈x.Pages,0≤y∧y≤1000000)∧OkAns p x.Answers
theorem c_Script (d:zae) (p:zaG) (c n:Int) (hd:DOk d) (hp:DPaper p) (h1:0≤p.Code∧p.Code≤31) (hc:1≤c∧c≤n) (hn:n≤9):∃ (x:zaR) (d':zae),cw zj5 [.loc 1000 2 0 0,.agg (zaJ p),I c] (mD d)=some (zg6 (x,d'))∧zlJ n p x∧x.Candidate=c∧DOk d':=by
 have hl:=hp.1; obtain ⟨n0,d0,e0,a0,b0,hd0⟩:=zcg d 3 hd (by omega); obtain ⟨n1,d1,e1,a1,b1,hd1⟩:=zcg d0 3 hd0 (by omega); have loop:=zdV p.Parts (fun i r=>∀ (a:List Int) (d2:zae),(a.length:Int)=i→DOk d2→(∀ (j:Nat) (x:GPart) (v:Int),p.Parts[j]?=some x→a[j]?=some v→x.Kind≠1→-2≤v∧v < x.Options)→∃ (x:zaR) (d':zae),zeS d p c (n0,d0) (n1,d1) (List.map zaj a) d2 i=some (zg6 (x,d'))∧zlJ n p x∧x.Candidate=c∧DOk d') ?_ ?_ [] d1 (by simp) hd1 (by intro j x v _ h; simp at h)
 · obtain ⟨x,d',e2,h⟩:=loop; refine ⟨x,d',zud d p c ?_,h⟩; simp only [e0,e1,zaU]; exact e2
 · intro a d2 ha hd2 hok; refine ⟨⟨p.Code*10000+c,p.Code,c,1+n0,p.Variant,[100*c+p.Code,n1],a⟩,d2,ziK _ _ _ _ _ _ _ _ ?_,?_,rfl,hd2⟩
   · simp (disch:=omega) only [zam,zaO,zbO,zbL,zbf,w64_id]; rw [zcs (by simp),zcs (by simp)]; rfl
   · refine ⟨rfl,rfl,rfl,hc,by dsimp only; omega,rfl,?_,by dsimp only; omega,hok⟩; intro y hy; simp only [za7,zc4,or_false] at hy; omega
 · intro i hi r hr ih a d2 ha hd2 hok; obtain ⟨hx,_⟩:=hp.2.2.1 _ (zbi hi)
   have snoc:∀ v:Int,(p.Parts[i].Kind≠1→-2≤v∧v < p.Parts[i].Options)→∀ (j:Nat) (x:GPart) (w:Int),p.Parts[j]?=some x→(a++[v])[j]?=some w→x.Kind≠1→-2≤w∧w < x.Options:=by
    intro v hv j x w hj hw; by_cases hja:j < a.length
    · rw [zng hja] at hw; exact hok j x w hj hw
    · have:=(zbu.1 hw).1; simp at this; have hji:j=a.length:=by omega
      subst hji; simp at hw; subst hw; have:i=a.length:=by omega
      subst this; rw [zaB hi] at hj; injection hj with hj; subst hj; exact hv
   rcases kind2 hx with hk | hk
   · obtain ⟨x,d',e2,h⟩:=ih (a++[-1]) d2 (by simp; omega) hd2 (snoc _ (fun h=>absurd hk h)); refine ⟨x,d',ziK _ _ _ _ _ _ _ _ ?_,h⟩; simp (disch:=omega) only [zam,zaD,zan,zbf,za2,zeo,zaB hi,zaX,show (p.Parts[i].Kind == 2)=false by rw [hk]; rfl,zat,w64_id,zcm zaj,e2]
   · obtain ⟨v,d3,e3,hv,hd3⟩:=c_Pick d2 [p.Parts[i].Key,0,1,-1,-2] hd2 (by simp) (by simp)
     have hv':-2≤v∧v < p.Parts[i].Options:=by unfold OkPart at hx; simp only [za7,zc4,or_false] at hv; omega
     obtain ⟨x,d',e2,h⟩:=ih (a++[v]) d3 (by simp; omega) hd3 (snoc _ (fun _=>hv')); refine ⟨x,d',ziK _ _ _ _ _ _ _ _ ?_,h⟩; simp (disch:=omega) only [zam,zaD,zan,zbf,za2,zeo,zaB hi,zaX,show (p.Parts[i].Kind == 2)=true by rw [hk]; rfl,zaF,e3,zaU,w64_id,zcm zaj,e2]
def zr4 (n:Int) (ps:List zaG) (l:List zaR):Prop:=(∀ x∈l,∃ p∈ps,zlJ n p x)∧AscBy zaR.Number l∧(l.length:Int)≤2*n
theorem c_Scripts (d:zae) (ps:List zaG) (n:Int) (hd:DOk d) (hps:zkw ps) (hn:0≤n∧n≤9):∃ (l:List zaR) (d':zae),cw zjn [.loc 1000 2 0 0,.sl 3 (List.map zaJ ps),I n] (mD d)=some (zgB (l,d'))∧zr4 n ps l∧DOk d':=by
 have hpl:=hps.2.1
 let Inv:Int→List zaR→Prop:=fun code l=>(∀ x∈l,(∃ p∈ps,zlJ n p x)∧x.Number < code*10000)∧AscBy zaR.Number l∧(l.length:Int)≤code*n
 let Res:Option (AV×Mem)→Prop:=fun o=>∃ (l:List zaR) (d':zae),o=some (zgB (l,d'))∧zr4 n ps l∧DOk d'
 have stage2:∀ (out:List zaR) (d:zae),Inv 2 out→DOk d→Res (zc9 ps n (List.map za0 out) d 2):=by intro out d hi hd; refine ⟨out,d,zmq _ _ _ _ _ ?_,⟨fun x hx=>(hi.1 x hx).1,hi.2.1,hi.2.2⟩,hd⟩; simp (disch:=omega) only [zaO,zbf]; rfl
 have step:∀ (code:Int),0≤code→code≤1→(∀ (out:List zaR) (d:zae),Inv (code+1) out→DOk d→Res (zc9 ps n (List.map za0 out) d (code+1)))→∀ (out:List zaR) (d:zae),Inv code out→DOk d→Res (zc9 ps n (List.map za0 out) d code):=by
  intro code hc0 hc1 next out d hi hd
  have third:∀ (l:List zaG),(∀ p∈l,p∈ps∧p.Code=code)→l.length≤3→∀ (m:Nat) (c:Int) (out:List zaR) (d:zae),c+m=n+1→1≤c→(∀ x∈out,(∃ p∈ps,zlJ n p x)∧x.Number < code*10000+c)→AscBy zaR.Number out→(out.length:Int)≤code*n+(c - 1)→DOk d→Res (zeG ps n code (List.map zaJ l) (List.map za0 out) d c):=by
   intro l hl hll m
   induction m with
   | zero =>
     intro c out d hc h1 g1 g2 g3 hd; obtain ⟨l',d',e1,h⟩:=next out d ⟨fun x hx=>⟨(g1 x hx).1,by have:=(g1 x hx).2; rw [Int.add_mul]; omega⟩,g2,by rw [Int.add_mul]; omega⟩ hd
     refine ⟨l',d',zfV _ _ _ _ _ _ _ ?_,h⟩; simp (disch:=omega) only [zaO,w64_id,e1]
   | succ m ih =>
     intro c out d hc h1 g1 g2 g3 hd; have hcn:code*n≤9:=by rcases (by omega:code=0∨code=1) with h | h <;> rw [h] <;> omega
     have hol:out.length≤20:=by omega
     by_cases hlz:0 < l.length
     · obtain ⟨n0,d0,e0,a0,b0,hd0⟩:=zcg d 5 hd (by omega); by_cases h0:0 < n0
       · obtain ⟨n1,d1,e1,a1,b1,hd1⟩:=zcg d0 l.length hd0 (by omega); have hlt:n1.toNat < l.length:=by omega
         obtain ⟨hp1,hp2⟩:=hl _ (zbi hlt); obtain ⟨q1,q2,q3⟩:=hps.2.2.1 _ hp1; obtain ⟨x,d2,e2,hx,hxc,hd2⟩:=c_Script d1 l[n1.toNat] c n hd1 q1 (by omega) (by omega) hn.2; have hxn:=hx.2.2.1
         obtain ⟨l',d',e3,h⟩:=ih (c+1) (out++[x]) d2 (by omega) (by omega)
          (by
           intro y hy; rcases zb2.1 hy with hy | hy
           · exact ⟨(g1 y hy).1,by have:=(g1 y hy).2; omega⟩
           · simp only [zdf] at hy; subst hy
             exact ⟨⟨_,hp1,hx⟩,by rw [hxn,hp2,hxc]; omega⟩)
          (asc_snoc g2 (fun y hy=>by rw [hxn,hp2,hxc]; exact (g1 y hy).2))
          (by simp; omega) hd2
         refine ⟨l',d',zfV _ _ _ _ _ _ _ ?_,h⟩; simp (disch:=omega) only [zam,zaD,e0,zaU,e1,zan,zbf,zbO,zfI,zaB hlt,zaX,e2,zqO,w64_id,zcm za0,e3]
       · obtain ⟨l',d',e3,h⟩:=ih (c+1) out d0 (by omega) (by omega) (fun y hy=>⟨(g1 y hy).1,by have:=(g1 y hy).2; omega⟩) g2 (by omega) hd0; refine ⟨l',d',zfV _ _ _ _ _ _ _ ?_,h⟩; simp (disch:=omega) only [zam,zaD,zaO,e0,zaU,w64_id,e3]
     · obtain ⟨l',d',e1,h⟩:=next out d ⟨fun x hx=>⟨(g1 x hx).1,by have:=(g1 x hx).2; rw [Int.add_mul]; omega⟩,g2,by rw [Int.add_mul]; omega⟩ hd
       refine ⟨l',d',zfV _ _ _ _ _ _ _ ?_,h⟩; simp (disch:=omega) only [zam,zaD,zaO,w64_id,e1]
  have second:=zdV ps (fun i r=>∀ l:List zaG,(∀ p∈l,p∈ps∧p.Code=code)→(l.length:Int)≤i→Res (zeF ps n (List.map za0 out) d code (List.map zaJ l) i)) ?_ ?_ [] (by simp) (by simp)
  · obtain ⟨l',d',e1,h⟩:=second; refine ⟨l',d',zmq _ _ _ _ _ ?_,h⟩; simp (disch:=omega) only [zaD]; exact e1
  · intro l hl hll; obtain ⟨l',d',e1,h⟩:=third l hl (by omega) n.toNat 1 out d (by omega) (by omega) (fun x hx=>⟨(hi.1 x hx).1,by have:=(hi.1 x hx).2; omega⟩) hi.2.1 (by have:=hi.2.2; omega) hd; refine ⟨l',d',zhX _ _ _ _ _ _ _ ?_,h⟩; simp (disch:=omega) only [zam,zaO,e1]
  · intro i hi' r hr ih l hl hll; by_cases hcode:ps[i].Code=code
    · obtain ⟨l',d',e1,h⟩:=ih (l++[ps[i]]) (by
       intro p hp; rcases zb2.1 hp with hp | hp
       · exact hl p hp
       · simp only [zdf] at hp; subst hp
         exact ⟨zbi hi',hcode⟩) (by simp; omega)
      refine ⟨l',d',zhX _ _ _ _ _ _ _ ?_,h⟩; simp (disch:=omega) only [zam,zaD,zan,zbf,za2,zfI,zaB hi',zaX,show (ps[i].Code == code)=true by simpa using hcode,zaF,w64_id,zcm zaJ,e1]
    · obtain ⟨l',d',e1,h⟩:=ih l hl (by omega); refine ⟨l',d',zhX _ _ _ _ _ _ _ ?_,h⟩; simp (disch:=omega) only [zam,zaD,zan,zbf,za2,zfI,zaB hi',zaX,show (ps[i].Code == code)=false by simpa using hcode,zat,w64_id,e1]
 have stage1:=step 1 (by omega) (by omega) stage2; have stage0:=step 0 (by omega) (by omega) stage1; obtain ⟨l,d',e1,h⟩:=stage0 [] d ⟨by simp,fun j hj=>by simp at hj,by simp⟩ hd; exact ⟨l,d',ztE d ps n e1,h⟩
def zxj:zaG:=⟨0,0,[]⟩
theorem zsr (ps:List zaG) (x:zaR) (hl:ps.length≤1000000):cw zj6 [.sl 3 (List.map zaJ ps),.agg (za0 x)] []=some (zmT (((zfU ps x).map (·.2)).getD zxj)):=by
 refine zAt ps x ?_; have key:=zir ps (fun p=>p.Code == x.Paper && p.Variant == x.Variant) (fun i=>zhQ ps x i) (fun o=>zmT ((o.map (·.2)).getD zxj)) ?_ ?_ ?_
 · exact key
 · exact znR _ _ _ (by simp (disch:=omega) [zaO] <;> rfl)
 · intro i hi h; refine znR _ _ _ ?_; rw [zbX] at h; simp (disch:=omega) [zaD,zan,h.1,h.2]; rfl
 · intro i hi y h hk; refine znR _ _ _ ?_
   cases h1:(ps[i].Code == x.Paper) with
   | false=>simp (disch:=omega) [zaD,zan,w64_id,h1,hk]
   | true=>rw [h1,zjS] at h; simp (disch:=omega) [zaD,zan,w64_id,h1,h,hk]
theorem c_Seed (d:zae) (ps:List zaG) (x:zaR) (k:Nat) (p:zaG) (hd:DOk d) (hps:ps.length≤1000000) (hk:zfU ps x=some (k,p)) (hp:DPaper p):∃ (y:GSeed) (d':zae),cw zlR [.loc 1000 2 0 0,.sl 3 (List.map zaJ ps),.agg (za0 x)] (mD d)=some (ziy (y,d'))∧y.Script=x.Number∧zrd p y.Marks∧DOk d':=by
 have hl:=hp.1; have loop:=zdV p.Parts (fun i r=>∀ (a:List Int) (d2:zae),(a.length:Int)=i→DOk d2→(∀ (j:Nat) (x:GPart) (v:Int),p.Parts[j]?=some x→a[j]?=some v→0≤v∧v≤x.Max)→∃ (y:GSeed) (d':zae),zg3 x p (List.map zaj a) d2 i=some (ziy (y,d'))∧y.Script=x.Number∧zrd p y.Marks∧DOk d') ?_ ?_ [] d (by simp) hd (by intro j x v _ h; simp at h)
 · obtain ⟨y,d',e2,h⟩:=loop; refine ⟨y,d',zwE d ps x ?_,h⟩; simp only [zsr ps x hps,hk,zig]; exact e2
 · intro a d2 ha hd2 hok; refine ⟨⟨x.Number,a⟩,d2,zoq _ _ _ _ _ ?_,rfl,⟨by dsimp only; omega,hok⟩,hd2⟩; simp (disch:=omega) only [zam,zaO,zbO,zbL,zbf,w64_id]; rw [zcs (by simp)]; rfl
 · intro i hi r hr ih a d2 ha hd2 hok; obtain ⟨hx,hx2⟩:=hp.2.2.1 _ (zbi hi); have hm:=hx.1; obtain ⟨v,d3,e3,a3,b3,hd3⟩:=zcg d2 (p.Parts[i].Max+1) hd2 (by omega)
   obtain ⟨y,d',e2,h⟩:=ih (a++[v]) d3 (by simp; omega) hd3 (by
    intro j x w hj hw; by_cases hja:j < a.length
    · rw [zng hja] at hw; exact hok j x w hj hw
    · have:=(zbu.1 hw).1; simp at this; have hji:j=a.length:=by omega
      subst hji; simp at hw; subst hw; have:i=a.length:=by omega
      subst this; rw [zaB hi] at hj; injection hj with hj; subst hj
      omega)
   refine ⟨y,d',zoq _ _ _ _ _ ?_,h⟩; simp (disch:=omega) only [zam,zaD,zan,zbf,za2,zeo,zaB hi,zaX,w64_id,e3,zaU,zcm zaj,e2]
theorem c_Monitor (d:zae) (hd:DOk d):∃ (r:za6) (d':zae),cw zjm [.loc 1000 2 0 0] (mD d)=some (zjp (r,d'))∧OkMon r∧DOk d':=by obtain ⟨n0,d0,e0,a0,b0,hd0⟩:=zcg d 3 hd (by omega); obtain ⟨n1,d1,e1,a1,b1,hd1⟩:=zcg d0 2 hd0 (by omega); obtain ⟨n2,d2,e2,a2,b2,hd2⟩:=zcg d1 3 hd1 (by omega); obtain ⟨n3,d3,e3,a3,b3,hd3⟩:=zcg d2 (1+n0) hd2 (by omega); refine ⟨⟨n1,n2,1+n0,1+n3⟩,d3,ztD d ?_,by refine ⟨?_,?_,?_,?_⟩ <;> dsimp only <;> omega,hd3⟩; simp (disch:=omega) only [e0,e1,e2,zaU,w64_id,e3]; rfl
structure DSetup (s:zaz):Prop where
 ok:zds s
 papers:zkw s.Papers
 markers:DMarkers s.Markers
 scripts:zr4 4 s.Papers s.Scripts
theorem zs2 {ps:List zaG} (hps:zkw ps) {n:Int} {p:zaG} {x:zaR} (hp:p∈ps) (hx:zlJ n p x):∃ k,zfU ps x=some (k,p):=by
 unfold zfU
 cases hf:fnd (fun p=>p.Code == x.Paper && p.Variant == x.Variant) 0 ps with
 | none=>have:=znH.1 hf p hp; rw [hx.1,hx.2.1] at this; simp at this
 | some q=>obtain ⟨k,p'⟩:=q; obtain ⟨h1,h2,_⟩:=fnd_at hf; simp only [zbX,beq_iff_eq] at h2; have:=hps.2.2.2 p' (zbU h1) p hp (by rw [h2.1,hx.1]) (by rw [h2.2,hx.2.1]); rw [this]; exact ⟨k,rfl⟩
theorem scripts_ok {n:Int} (hn:n≤9) {ps:List zaG} (hps:zkw ps) {l:List zaR} (h:zr4 n ps l):zn5 l:=by refine ⟨by have:=h.2.2; omega,fun x hx=>?_,h.2.1⟩; obtain ⟨p,hp,a,b,c,d,e,f,_⟩:=h.1 x hx; obtain ⟨q1,q2,q3⟩:=hps.2.2.1 p hp; exact ⟨by omega,by omega,by omega,by omega,by rw [c,a],by omega⟩
theorem c_Setup (d:zae) (hd:DOk d):∃ (s:zaz) (d':zae),cw zk9 [.loc 1000 2 0 0] (mD d)=some (zhI (s,d'))∧DSetup s∧DOk d':=by
 obtain ⟨ps,cs,d0,e0,o0,p0,q0,hd0⟩:=c_Papers d hd; obtain ⟨ms,d1,e1,o1,hd1⟩:=c_Markers d0 hd0; obtain ⟨xs,d2,e2,o2,hd2⟩:=c_Scripts d1 ps 4 hd1 o0 (by omega); obtain ⟨mr,d3,e3,o3,hd3⟩:=c_Monitor d2 hd2; have hxl:=o2.2.2; have hpl:=o0.2.1; have hxs:=scripts_ok (by omega) o0 o2; have loop:=zdV xs (fun i r=>∀ (sd:List GSeed) (d4:zae),(sd.length:Int)≤i→DOk d4→AscBy GSeed.Script sd→(∀ y∈sd,∀ x∈r,y.Script < x.Number)→(∀ y∈sd,∃ x∈xs,∃ k p,y.Script=x.Number∧zfU ps x=some (k,p)∧zrd p y.Marks)→∃ (s:zaz) (d':zae),zfe ((ps,cs),d0) (ms,d1) (xs,d2) (mr,d3) (List.map zch sd) d4 i=some (zhI (s,d'))∧DSetup s∧DOk d') ?_ ?_ [] d3 (by simp) hd3 (fun j hj=>by simp at hj) (by simp) (by simp)
 · obtain ⟨s,d',e4,h⟩:=loop; refine ⟨s,d',zvl d ?_,h⟩; simp only [e0,e1,e2,e3,zqM,zqd,zqf,zqe]; exact e4
 · intro sd d4 hl hd4 ha _ hs; refine ⟨⟨ms,xs,ps,cs,sd,mr⟩,d4,zjr _ _ _ _ _ _ _ ?_,?_,hd4⟩
   · simp (disch:=omega) only [zam,zaO,zbO,zbL,zbf]; rw [zcs (by simp),zcs (by simp),zcs (by simp)]; rfl
   · refine ⟨⟨o1.2.2.1,hxs,by dsimp only; omega,p0,fun j p c hp hc=>(q0 j p c hp hc).1,fun x hx=>?_,by dsimp only; omega,ha,fun y hy=>?_,o3,fun c hc=>?_,fun m hm=>by have:=o1.2.2.2.1 m hm; omega⟩,o0,o1,o2⟩
     · obtain ⟨p,hp,hxp⟩:=o2.1 x hx; obtain ⟨k,hk⟩:=zs2 o0 hp hxp; have hpk:=(ziw hk).1; have hlt:=(zbu.1 hpk).1; exact ⟨k,p,cs[k]'(show k < cs.length by omega),hk,zaB _,hxp.2.2.2.2.2.2.2⟩
     · obtain ⟨x,hx,k,p,h1,h2,h3⟩:=hs y hy; refine ⟨k,p,?_,h3⟩; unfold znN; dsimp only; rw [h1,zAI hxs.2.2 hx]; exact h2
     · obtain ⟨j,hj,rfl⟩:=zne.1 hc; exact (q0 j _ _ (zaB (by simp only at hj; omega)) (zaB hj)).2
 · intro i hi r hr ih sd d4 hl hd4 ha hlt hs; obtain ⟨b,d5,e5,hd5⟩:=zry d4 3 hd4 (by omega)
   have hrm:∀ x∈r,x∈xs∧xs[i].Number < x.Number:=by intro x hx; rw [← hr] at hx; obtain ⟨j,hj,rfl⟩:=zne.1 hx; rw [List.getElem_drop]; exact ⟨zbi _,asc_lt hxs.2.2 i _ _ (by omega)⟩
   cases b with
   | false=>obtain ⟨s,d',e4,h⟩:=ih sd d5 (by omega) hd5 ha (fun y hy x hx=>hlt y hy x (by simp [hx])) hs; refine ⟨s,d',zjr _ _ _ _ _ _ _ ?_,h⟩; simp (disch:=omega) only [zam,zaD,e5,zbZ,zat,w64_id,e4]
   | true =>
     obtain ⟨p,hp,hxp⟩:=o2.1 _ (zbi hi); obtain ⟨k,hk⟩:=zs2 o0 hp hxp; obtain ⟨y,d6,e6,h1,h2,hd6⟩:=c_Seed d5 ps xs[i] k p hd5 (by omega) hk (o0.2.2.1 p hp).1
     obtain ⟨s,d',e4,h⟩:=ih (sd++[y]) d6 (by simp; omega) hd6 (asc_snoc ha (fun z hz=>by rw [h1]; exact hlt z hz _ (by simp)))
      (by
       intro z hz x hx; rcases zb2.1 hz with hz | hz
       · exact hlt z hz x (by simp [hx])
       · simp only [zdf] at hz; subst hz; rw [h1]
         exact (hrm x hx).2)
      (by
       intro z hz; rcases zb2.1 hz with hz | hz
       · exact hs z hz
       · simp only [zdf] at hz; subst hz
         exact ⟨_,zbi hi,k,p,h1,hk,h2⟩)
     refine ⟨s,d',zjr _ _ _ _ _ _ _ ?_,h⟩; simp (disch:=omega) only [zam,zaD,e5,zbZ,zaF,zan,zbf,zbO,za2,zgM,zaB hi,zaX,e6,zsv,w64_id,zcm zch,e4]
def Sat {β:Type} (Q:β→Prop) (o:Option β):Prop:=∃ y,o=some y∧Q y
theorem sat_of {β:Type} {Q:β→Prop} {a b:Option β} (h:∀ y,a=some y→b=some y) (ha:Sat Q a):Sat Q b:=by obtain ⟨y,e,hq⟩:=ha; exact ⟨y,h y e,hq⟩
theorem sat_some {β:Type} {Q:β→Prop} {y:β} (h:Q y):Sat Q (some y):=⟨y,rfl,h⟩
theorem ofScript {s:zaz} (hs:DSetup s) {x:zaR} (hx:x∈s.Scripts):∃ k p,zfU s.Papers x=some (k,p)∧p∈s.Papers∧zlJ 4 p x∧DPaper p:=by obtain ⟨p,hp,h⟩:=hs.scripts.1 x hx; obtain ⟨k,hk⟩:=zs2 hs.papers hp h; exact ⟨k,p,hk,hp,h,(hs.papers.2.2.1 p hp).1⟩
theorem c_Mark (d:zae) (s:zaz) (a b:Int) (hd:DOk d) (hs:DSetup s):∃ (e:zab) (d':zae),cw zlQ [.loc 1000 2 0 0,.agg (zaq s),I a,I b] (mD d)=some (zlY (e,d'))∧e.Pages.length≤12∧DOk d':=by
 have hm:=hs.markers; have hsl:=hs.scripts.2.2; have hpl:=hs.papers.2.1; obtain ⟨n0,d0,e0,a0,b0,hd0⟩:=zcg d s.Markers.length hd (by have:=hm.2.1; omega); have hlt:n0.toNat < s.Markers.length:=by have:=hm.1; omega
 by_cases hz:s.Scripts.length=0
 · refine ⟨⟨⟨b,s.Markers[n0.toNat].ID,a⟩,0,0,0,0,0,[]⟩,d0,zlN _ _ _ _ ?_,by simp,hd0⟩; simp (disch:=omega) only [zam,e0,zaU,zan,zes,zaB hlt,zaX,hz,Int.ofNat_zero,Int.natCast_zero,beq_self_eq_true,zaF,zbO,zbL,zbf]; rfl
 · obtain ⟨n1,d1,e1,a1,b1,hd1⟩:=zcg d0 s.Scripts.length hd0 (by omega); have hl1:n1.toNat < s.Scripts.length:=by omega
   obtain ⟨k,p,hk,hp,hx,hdp⟩:=ofScript hs (zbi hl1); have hpp:=hdp.1; have hpq:=hdp.2.1; have hpg:=hx.2.2.2.2.2.1; obtain ⟨n2,d2,e2,a2,b2,hd2⟩:=zcg d1 p.Parts.length hd1 (by omega); have hl2:n2.toNat < p.Parts.length:=by omega
   have hx2:=(hdp.2.2.1 _ (zbi hl2)).1.1; obtain ⟨n3,d3,e3,a3,b3,hd3⟩:=zcg d2 (p.Parts[n2.toNat].Max+2) hd2 (by omega); obtain ⟨v,d4,e4,hd4⟩:=zry d3 12 hd3 (by omega); have hz':((s.Scripts.length:Int) == 0)=false:=by simp; intro h; exact hz (by simpa using h)
   cases v with
   | true=>refine ⟨⟨⟨b,s.Markers[n0.toNat].ID,a⟩,0,s.Scripts[n1.toNat].Number,n2,n3 - 1,0,[]⟩,d4,zlN _ _ _ _ ?_,by simp,hd4⟩; simp (disch:=omega) only [zam,e0,zaU,zan,zes,zaB hlt,zaX,hz',zat,e1,zgM,zaB hl1,zsr s.Papers _ (show s.Papers.length≤1000000 by omega),hk,zc6,zfi,zig,e2,zeo,zaB hl2,w64_id,e3,e4,zbZ,zaF]; exact zrZ _ _ _ _ _ _ _ (by simp (disch:=omega) only [zbO,zbL,zbf,w64_id]; rfl)
   | false =>
     refine ⟨⟨⟨b,s.Markers[n0.toNat].ID,a⟩,0,s.Scripts[n1.toNat].Number,n2,n3 - 1,0,s.Scripts[n1.toNat].Pages⟩,d4,zlN _ _ _ _ ?_,by dsimp only; omega,hd4⟩; simp (disch:=omega) only [zam,e0,zaU,zan,zes,zaB hlt,zaX,hz',zat,e1,zgM,zaB hl1,zsr s.Papers _ (show s.Papers.length≤1000000 by omega),hk,zc6,zfi,zig,e2,zeo,zaB hl2,w64_id,e3,e4,zbZ,zat]
     exact zqk _ _ _ _ _ _ _ (by
      simp (disch:=omega) only [zbO,zam,zbL,zbf,w64_id]; rw [zcs (by simp)]
      rfl)
set_option maxRecDepth 20000 in
theorem c_Events (d:zae) (s:zaz) (n:Int) (hd:DOk d) (hs:DSetup s) (hn:0≤n∧n≤50):∃ (l:List zab) (d':zae),cw zj3 [.loc 1000 2 0 0,.agg (zaq s),I n] (mD d)=some (zdT (l,d'))∧(l.length:Int)≤n∧(∀ e∈l,e.Pages.length≤12)∧DOk d':=by
 have hm:=hs.markers; have hm1:=hm.1; have hm2:=hm.2.1; have hsl:=hs.scripts.2.2
 let Q:AV×Mem→Prop:=fun y=>∃ (l:List zab) (d':zae),y=zdT (l,d')∧(l.length:Int)≤n∧(∀ e∈l,e.Pages.length≤12)∧DOk d'
 have loop:∀ (m:Nat) (i:Int) (out:List zab) (d:zae),i+m=n→0≤i→(out.length:Int)≤i→(∀ e∈out,e.Pages.length≤12)→DOk d→Sat Q (zbS s n (List.map zaa out) d i):=by
  intro m
  induction m with
  | zero=>intro i out d hi h0 hl hp hd; refine sat_of (fun y=>zmX _ _ _ _ _) ?_; simp (disch:=omega) only [zaO,zbf]; exact sat_some ⟨out,d,rfl,by omega,hp,hd⟩
  | succ m ih =>
    intro i out d hi h0 hl hp hd; have stay:∀ d',DOk d'→Sat Q (zbS s n (List.map zaa out) d' (i+1)):=fun d' hd'=>ih (i+1) out d' (by omega) (by omega) (by omega) hp hd'
    have more:∀ e d',e.Pages.length≤12→DOk d'→Sat Q (zbS s n (List.map zaa (out++[e])) d' (i+1)):=fun e d' he hd' =>
     ih (i+1) (out++[e]) d' (by omega) (by omega) (by simp; omega) (by
      intro x hx; rcases zb2.1 hx with hx | hx
      · exact hp x hx
      · simp only [zdf] at hx
        exact hx▸he) hd'
    obtain ⟨n0,d0,e0,a0,b0,hd0⟩:=zcg d 20 hd (by omega); obtain ⟨n1,d1,e1,a1,b1,hd1⟩:=zcg d0 14 hd0 (by omega); refine sat_of (fun y=>zmX _ _ _ _ _) ?_; by_cases c0:n1=0
    · obtain ⟨n2,d2,e2,a2,b2,hd2⟩:=zcg d1 s.Markers.length hd1 (by omega); have hlt:n2.toNat < s.Markers.length:=by omega
      simp only [eq_self,zbf]; simp (disch:=omega) only [zam,zaD,e0,zaU,e1,show (n1 == 0)=true by simpa using c0,zaF,e2,zan,zes,zaB hlt,zaX,zbf,w64_id]; simp only [zcm zaa]; exact more _ _ (by simp) hd2
    · by_cases c1:n1=1
      · by_cases hz:0 < s.Scripts.length
        · obtain ⟨n2,d2,e2,a2,b2,hd2⟩:=zcg d1 s.Scripts.length hd1 (by omega); have hlt:n2.toNat < s.Scripts.length:=by omega
          obtain ⟨n3,d3,e3,a3,b3,hd3⟩:=zcg d2 3 hd2 (by omega); simp only [eq_self,zbf]; simp (disch:=omega) only [zam,zaD,e0,zaU,e1,show (n1 == 0)=false by simpa using c0,show (n1 == 1)=true by simpa using c1,zaF,zat,e2,e3,zan,zgM,zaB hlt,zaX,zbf,w64_id]; simp only [zcm zaa]; exact more _ _ (by simp) hd3
        · simp (disch:=omega) only [zam,zaD,zaO,e0,zaU,e1,show (n1 == 0)=false by simpa using c0,show (n1 == 1)=true by simpa using c1,zaF,zat,w64_id]; exact stay _ hd1
      · by_cases c2:n1=2
        · by_cases hz:0 < out.length
          · obtain ⟨n2,d2,e2,a2,b2,hd2⟩:=zcg d1 out.length hd1 (by omega); have hlt:n2.toNat < out.length:=by omega
            simp only [eq_self,zbf]; simp (disch:=omega) only [zam,zaD,e0,zaU,e1,show (n1 == 0)=false by simpa using c0,show (n1 == 1)=false by simpa using c1,show (n1 == 2)=true by simpa using c2,zaF,zat,e2,zan,zbO,zbJ,zaB hlt,zaX,zbf,w64_id]; simp only [zcm zaa]; exact more _ _ (hp _ (zbi hlt)) hd2
          · simp (disch:=omega) only [zam,zaD,zaO,e0,zaU,e1,show (n1 == 0)=false by simpa using c0,show (n1 == 1)=false by simpa using c1,show (n1 == 2)=true by simpa using c2,zaF,zat,w64_id]; exact stay _ hd1
        · by_cases c3:n1=3
          · by_cases hz:0 < out.length
            · obtain ⟨n2,d2,e2,a2,b2,hd2⟩:=zcg d1 out.length hd1 (by omega); have hlt:n2.toNat < out.length:=by omega
              simp only [eq_self,zbf]; simp (disch:=omega) only [zam,zaD,e0,zaU,e1,show (n1 == 0)=false by simpa using c0,show (n1 == 1)=false by simpa using c1,show (n1 == 2)=false by simpa using c2,show (n1 == 3)=true by simpa using c3,zaF,zat,e2,zan,zbO,zbJ,zaB hlt,zaX,zbf,w64_id (n:=i+1)]; simp only [zcm zaa]; exact more _ _ (show out[n2.toNat].Pages.length≤12 from hp _ (zbi hlt)) hd2
            · simp (disch:=omega) only [zam,zaD,zaO,e0,zaU,e1,show (n1 == 0)=false by simpa using c0,show (n1 == 1)=false by simpa using c1,show (n1 == 2)=false by simpa using c2,show (n1 == 3)=true by simpa using c3,zaF,zat,w64_id]; exact stay _ hd1
          · obtain ⟨e,d2,e2,he,hd2⟩:=c_Mark d1 s i (w64 (w64 (5*i)+n0)) hd1 hs; simp only [eq_self,zbf]; simp (disch:=omega) only [zam,zaD,e0,zaU,e1,show (n1 == 0)=false by simpa using c0,show (n1 == 1)=false by simpa using c1,show (n1 == 2)=false by simpa using c2,show (n1 == 3)=false by simpa using c3,zat,e2,zsu,zan,zbf,w64_id (n:=i+1)]; simp only [zcm zaa]; exact more _ _ he hd2
 obtain ⟨y,e1,l,d',rfl,h⟩:=loop n.toNat 0 [] d (by omega) (by omega) (by simp) (by simp) hd; exact ⟨l,d',zuc _ _ _ e1,h⟩
def FullEv (n:Int) (e:zab):Prop:=e.Pages.length≤12∧e.Kind=0∧n≤e.Stamp.Time∧e.Stamp.Time≤n+120∧1000≤e.Stamp.Seq∧e.Marker=0
theorem c_FullK (d:zae) (s:zaz) (n:Int) (hd:DOk d) (hs:DSetup s) (hn:0≤n∧n≤1000):∃ (l:List zab) (d':zae),cw zij [.loc 1000 2 0 0,.agg (zaq s),I n] (mD d)=some (zdT (l,d'))∧l.length≤120∧(∀ e∈l,FullEv n e)∧DOk d':=by
 have hm2:=hs.markers.2.1; have hsl:=hs.scripts.2.2; have hpl:=hs.papers.2.1
 let Q:AV×Mem→Prop:=fun y=>∃ (l:List zab) (d':zae),y=zdT (l,d')∧l.length≤120∧(∀ e∈l,FullEv n e)∧DOk d'
 have loop:=zdV s.Scripts (fun i _=>∀ (out:List zab) (d:zae),(out.length:Int)≤15*i→(∀ e∈out,FullEv n e)→DOk d→Sat Q (zg1 s n (List.map zaa out) d i)) ?_ ?_ [] d (by simp) (by simp) hd
 · obtain ⟨y,e1,l,d',rfl,h⟩:=loop; exact ⟨l,d',zwC _ _ _ e1,h⟩
 · intro out d hl hp hd; refine sat_of (fun y=>zon _ _ _ _ _) ?_; simp (disch:=omega) only [zam,zaO,zbf]; exact sat_some ⟨out,d,rfl,by omega,hp,hd⟩
 · intro i hi r _ ih out d hl hp hd; obtain ⟨k,p,hk,hpm,hx,hdp⟩:=ofScript hs (zbi hi); have hpp:=hdp.1; have hpg:=hx.2.2.2.2.2.1; refine sat_of (fun y=>zon _ _ _ _ _) ?_; simp (disch:=omega) only [zam,zaD,zan,za2,zgM,zaB hi,zaX,zsr s.Papers _ (show s.Papers.length≤1000000 by omega),hk,zc6,zfi,zig]; refine zdV s.Markers (fun j _=>∀ (out:List zab) (d:zae),(out.length:Int)≤15*i+3*j→(∀ e∈out,FullEv n e)→DOk d→Sat Q (zg2 s n i p (List.map zaa out) d j)) ?_ ?_ out d (by omega) hp hd
   · intro out d hl hp hd; refine sat_of (fun y=>zoo _ _ _ _ _ _ _) ?_; simp (disch:=omega) only [zam,zaO,w64_id]; exact ih out d (by omega) hp hd
   · intro j hj r _ ih2 out d hl hp hd; refine sat_of (fun y=>zoo _ _ _ _ _ _ _) ?_; simp (disch:=omega) only [zam,zaD]; refine zdV p.Parts (fun q _=>∀ (out:List zab) (d:zae),(out.length:Int)≤15*i+3*j+q→(∀ e∈out,FullEv n e)→DOk d→Sat Q (zeE s n i p j (List.map zaa out) d q)) ?_ ?_ out d (by omega) hp hd
     · intro out d hl hp hd; refine sat_of (fun y=>zop _ _ _ _ _ _ _ _) ?_; simp (disch:=omega) only [zam,zaO,w64_id]; exact ih2 out d (by omega) hp hd
     · intro q hq r _ ih3 out d hl hp hd; have hmx:=(hdp.2.2.1 _ (zbi hq)).1.1; refine sat_of (fun y=>zop _ _ _ _ _ _ _ _) ?_; by_cases hkd:p.Parts[q].Kind=1
       · obtain ⟨n0,d0,e0,a0,b0,hd0⟩:=zcg d 4 hd (by omega); by_cases hz:0 < n0
         · obtain ⟨n1,d1,e1,a1,b1,hd1⟩:=zcg d0 (p.Parts[q].Max+1) hd0 (by omega); simp (disch:=omega) only [zam,zaD,zan,za2,zeo,zaB hq,zaX,show (p.Parts[q].Kind == 1)=true by simpa using hkd,zaF,e0,zaU,zes,zaB hj,zgM,zaB hi,w64_id,e1,zbf,zcm zaa]; refine ih3 (out++[_]) d1 (by simp; omega) ?_ hd1; intro x hx'; rcases zb2.1 hx' with hx' | hx'
           · exact hp x hx'
           · simp only [zdf] at hx'; subst hx'; refine ⟨?_,rfl,?_,?_,?_,rfl⟩ <;> dsimp only <;> omega
         · simp (disch:=omega) only [zam,zaD,zaO,zan,za2,zeo,zaB hq,zaX,show (p.Parts[q].Kind == 1)=true by simpa using hkd,zaF,e0,zaU,w64_id]; exact ih3 out d0 (by omega) hp hd0
       · simp (disch:=omega) only [zam,zaD,zaO,zan,za2,zeo,zaB hq,zaX,show (p.Parts[q].Kind == 1)=false by simpa using hkd,zat,w64_id]; exact ih3 out d (by omega) hp hd
theorem c_Full (d:zae) (s:zaz) (n:Int) (hd:DOk d) (hs:DSetup s) (hn:0≤n∧n≤1000:=by omega):∃ (l:List zab) (d':zae),cw zij [.loc 1000 2 0 0,.agg (zaq s),I n] (mD d)=some (zdT (l,d'))∧l.length≤120∧(∀ e∈l,e.Pages.length≤12)∧DOk d':=by obtain ⟨l,d',h1,h2,h3,h4⟩:=c_FullK d s n hd hs hn; exact ⟨l,d',h1,h2,fun e he=>(h3 e he).1,h4⟩
theorem zzv (s:zaM):cw zoz [.agg (zbD s)] []=some (zai (dec (zl3 s))):=by
 refine zzB s ?_; simp only [zeC,decide_eq_true_eq]
 repeat' split
 all_goals first
  | (rw [zbq (by unfold zl3; omega)]; rfl)
  | (rw [show decide (s.Seq≤9999)=dec (zl3 s) from zih (by simp only [decide_eq_true_eq]; unfold zl3; omega)]; rfl)
theorem zoV (a b c:Int):cw zgZ [I a,I b,I c] []=some (zai (dec (b≤a∧a≤c))):=by
 refine e_ref28_in a b c ?_; simp only [zeC,decide_eq_true_eq]; split
 · rw [show decide (a≤c)=dec (b≤a∧a≤c) from zih (by simp only [decide_eq_true_eq]; omega)]; rfl
 · rw [zbq (by omega)]; rfl
theorem zzw (e:zab):cw zoA [.agg (zaa e)] []=some (zai (dec (zpd e))):=by
 refine zzC e ?_; simp only [zzv,zoV,zao,zao,zam]; by_cases h1:zl3 e.Stamp
 · by_cases h2:0≤e.Script∧e.Script≤319999
   · by_cases h3:e.Pages.length≤12
     · simp (disch:=omega) only [zbw h1,zbw h2,zbH,zat,zaO]; have H:=zlL e.Pages.length (fun j hj=>0≤e.Pages[j]∧e.Pages[j]≤1152921504606846976) (fun i=>zjC e i) (fun b=>zai (b && dec (OkKind e))) ?_ ?_ ?_
       · rw [H]; congr 2; rw [zuT]; simp only [zbX,zvI,zpd]; rw [znw (G:=fun n=>0≤n∧n≤1152921504606846976)]; exact ⟨fun ⟨a,b⟩=>⟨h1,h2,h3,a,b⟩,fun ⟨_,_,_,a,b⟩=>⟨a,b⟩⟩
       · refine zm4 _ _ ?_; simp (disch:=omega) only [zam,zaO,zoV,zao,zjS]; simp only [zeC,decide_eq_true_eq,beq_iff_eq,zvI]
         repeat' split
         all_goals first
          | (rw [zbq (by unfold OkKind; omega)]; rfl)
          | (refine congrArg some (congrArg zai (?_:_=dec (OkKind e)):_=zai _)
             refine zih ?_; simp only [beq_iff_eq]; unfold OkKind
             omega)
       · intro i hi hn; refine zm4 _ _ ?_; simp (disch:=omega) only [zam,zaD,zan,za2,zcy,zaB hi,zaX,zoV,zao,zbq hn,zcc,zaF,zid]; rfl
       · intro i hi y hg hk; refine zm4 _ _ ?_; simp (disch:=omega) only [zam,zaD,zan,za2,zcy,zaB hi,zaX,zoV,zao,zbw hg,zbH,zat,w64_id,hk]
     · simp (disch:=omega) only [zbw h1,zbw h2,zbH,zat,zaD]; rw [zbq (fun h=>h3 h.2.2.1)]; rfl
   · simp only [zbw h1,zbq h2,zbH,zcc,zat,zaF]; rw [zbq (fun h=>h2 h.2.1)]; rfl
 · simp only [zbq h1,zcc,zaF]; rw [zbq (fun h=>h1 h.1)]; rfl
theorem zA1 (a b:List Int) (hl:a.length≤1000000):cw zlc [.sl 1 (List.map zaj a),.sl 1 (List.map zaj b)] []=some (zai (dec (a=b))):=by
 refine zvs a b ?_; by_cases h:a.length=b.length
 · simp only [zam,h,bne_self_eq_false,zat]; have H:=zlL a.length (fun j hj=>a[j]=b[j]'(by omega)) (fun i=>zgz a b i) zai ?_ ?_ ?_
   · rw [H,zkF]; exact ⟨fun hh=>zpC h (fun i h1 h2=>hh i h1),fun hh=>by subst hh; intros; rfl⟩
   · exact zjt _ _ _ (by simp (disch:=omega) only [zam,zaO]; rfl)
   · intro i hi hn; refine zjt _ _ _ ?_; simp (disch:=omega) only [zam,zaD,zan,za2,zcy,zaB hi,zaB (show i < b.length by omega),zaX,show (a[i] != b[i]'(by omega))=true by simpa using hn,zaF]; rfl
   · intro i hi y hn hk; refine zjt _ _ _ ?_; simp (disch:=omega) only [zam,zaD,zan,za2,zcy,zaB hi,zaB (show i < b.length by omega),zaX,show (a[i] != b[i]'(by omega))=false by simpa using hn,zat,w64_id,hk]
 · rw [zbq (fun hh=>h (by rw [hh]))]; simp only [zam,show ((a.length:Int) != (b.length:Int))=true by simp only [bne_iff_ne,ne_eq]; omega,zaF]; rfl
theorem zAj (a b:zab) (hl:a.Pages.length≤1000000):cw zpY [.agg (zaa a),.agg (zaa b)] []=some (zai (dec (a=b))):=by
 refine zAv a b ?_; obtain ⟨⟨a1,a2,a3⟩,a4,a5,a6,a7,a8,a9⟩:=a; obtain ⟨⟨b1,b2,b3⟩,b4,b5,b6,b7,b8,b9⟩:=b; simp only [zeC,beq_iff_eq,zbX,zni,zA1 _ _ hl,zao]
 repeat' split
 all_goals first
  | (rw [zbq (by simp only [zab.mk.injEq,zaM.mk.injEq]; omega)]; rfl)
  | (refine congrArg some (congrArg zai (zkF ?_):_=zai _)
     simp only [zab.mk.injEq,zaM.mk.injEq]
     simp [*])
theorem zAi (a b:zaM):cw zpX [.agg (zbD a),.agg (zbD b)] []=some (zai (lessS a b)):=by
 refine zAu a b ?_; unfold lessS; simp only [zeC,bne_iff_ne]; split
 · rfl
 · split <;> rfl
theorem zym (a b:zab):cw znF [.agg (zaa a),.agg (zaa b)] []=some (zai (lessS a.Stamp b.Stamp)):=by refine zyt a b ?_; simp only [zAi,zao]; rfl
end Go.Proofs.YtikogkgdkdmljaaGreat
end
