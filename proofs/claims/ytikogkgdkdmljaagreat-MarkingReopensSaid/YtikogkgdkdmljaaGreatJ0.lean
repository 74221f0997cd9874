/- Loops and branches of printed trees. -/
import Derived.Test.YtikogkgdkdmljaaGreatK5
import Derived.Test.YtikogkgdkdmljaaGreatAb9
set_option linter.unusedSimpArgs false
set_option linter.unusedVariables false
noncomputable section
namespace Go.Proofs.YtikogkgdkdmljaaGreat
open Go.Ab
theorem w6Q {n:Int} (h1:-9223372036854775808≤n:=by omega) (h2:n < 9223372036854775808:=by omega):w64 n=n:=w64_id h1 h2
theorem iNQ {c:Prop} [Decidable c] {α:Type} {t e:α} (h:¬c:=by omega):ite c t e=e:=if_neg h
theorem iPQ {c:Prop} [Decidable c] {α:Type} {t e:α} (h:c:=by omega):ite c t e=t:=if_pos h
theorem iNs {c:Prop} [Decidable c] {α:Type} {t e:α} (h:¬c:=by simp):ite c t e=e:=if_neg h
theorem cPQ {p:Prop} {β:Type} {x:Option β} (h:p:=by omega):chk p x=x:=zav h x
theorem zbV {p:Prop} (h:p):dec p=true:=by unfold dec; simp [h]
theorem zbI {p:Prop} (h:¬p):dec p=false:=by unfold dec; simp [h]
theorem zof {p q:Prop} (h:p↔q):dec p=dec q:=by rw [propext h]
theorem zy3 {p:Prop}:dec p=true↔p:=by unfold dec; simp
theorem zlU {b:Bool} {p:Prop} (h:b=true↔p):b=dec p:=by
 by_cases hp:p
 · rw [zbV hp]; exact h.2 hp
 · rw [zbI hp]; cases b with
   | true=>exact absurd (h.1 rfl) hp
   | false=>rfl
theorem zhl {β:Type} (b:Bool) (t e:Option β):brn b t e=if b=true then t else e:=by cases b <;> rfl
variable {α β:Type}
theorem zgL (l:List α) (P:Int→List α→Prop) (h0:P l.length [])
  (hs:∀ (i:Nat) (hi:i < l.length) (r:List α),l.drop (i+1)=r→P ((i:Int)+1) r→P i (l[i] :: r)):P 0 l:=by
 have key:∀ (n i:Nat),i+n=l.length→P (i:Int) (l.drop i):=by
  intro n
  induction n with
  | zero=>intro i hi; have:l.drop i=[]:=zn8 (by omega); rw [this,show i=l.length by omega]; exact h0
  | succ n ih =>
    intro i hi; have hlt:i < l.length:=by omega
    rw [zf9 hlt]; have:=ih (i+1) (by omega); rw [zs1] at this; exact hs i hlt _ rfl this
 have:=key l.length 0 (by omega); simpa using this
theorem zq0 (n:Nat) (G:∀ j,j < n→Prop) (K:Int→Option β) (S:β→Prop) (z:β) (h0:(∀ j hj,G j hj)→K n=some z)
  (hno:∀ (i:Nat) (hi:i < n),(∀ j (hj:j < i),G j (by omega))→¬ G i hi→∃ y,S y∧K i=some y) (hyes:∀ (i:Nat) (hi:i < n) (y:β),G i hi→K ((i:Int)+1)=some y→K i=some y):((∀ j hj,G j hj)∧K 0=some z)∨((∃ j hj,¬ G j hj)∧∃ y,S y∧K 0=some y):=by
 have key:∀ (m i:Nat),i+m=n→(∀ j (hj:j < i) (hn:j < n),G j hn)→((∀ j hj,i≤j→G j hj)∧K (i:Int)=some z)∨((∃ j hj,¬ G j hj)∧∃ y,S y∧K (i:Int)=some y):=by
  intro m
  induction m with
  | zero=>intro i hi hpre; left; refine ⟨fun j hj h=>by omega,?_⟩; rw [show i=n by omega,h0 (fun j hj=>hpre j (by omega) hj)]
  | succ m ih =>
    intro i hi hpre; by_cases hg:G i (by omega)
    · have:=ih (i+1) (by omega) (fun j hj hn=>by
       by_cases e:j=i
       · subst e; exact hg
       · exact hpre j (by omega) hn)
      rw [zs1] at this; rcases this with ⟨h1,h2⟩ | ⟨h1,y,h2,h3⟩
      · left; refine ⟨fun j hj h=>?_,hyes i (by omega) z hg h2⟩; by_cases e:j=i
        · subst e; exact hg
        · exact h1 j hj (by omega)
      · exact .inr ⟨h1,y,h2,hyes i (by omega) y hg h3⟩
    · exact .inr ⟨⟨i,by omega,hg⟩,hno i (by omega) (fun j hj=>hpre j hj _) hg⟩
 rcases key n 0 (by omega) (fun j hj=>by omega) with ⟨h1,h2⟩ | h
 · exact .inl ⟨fun j hj=>h1 j hj (zoc _),h2⟩
 · exact .inr h
theorem zpl (n:Nat) (G:∀ j,j < n→Prop) (K:Int→Option β) (q:Bool→β) (h0:K n=some (q true))
  (hno:∀ (i:Nat) (hi:i < n),¬ G i hi→K i=some (q false)) (hyes:∀ (i:Nat) (hi:i < n) (y:β),G i hi→K ((i:Int)+1)=some y→K i=some y):K 0=some (q (dec (∀ j hj,G j hj))):=by
 rcases zq0 n G K (fun x=>x=q false) (q true) (fun _=>h0) (fun i hi _ h=>⟨_,rfl,hno i hi h⟩) hyes with ⟨h1,h2⟩ | ⟨⟨j,hj,h1⟩,y,rfl,h2⟩
 · rw [h2,zbV h1]
 · rw [h2,zbI (fun h=>h1 (h j hj))]
theorem all_err (n:Nat) (G:∀ j,j < n→Prop) (K:Int→Option β) (q:Int→β) (h0:K n=some (q 0))
  (hno:∀ (i:Nat) (hi:i < n),¬ G i hi→∃ e,e≠0∧K i=some (q e)) (hyes:∀ (i:Nat) (hi:i < n) (y:β),G i hi→K ((i:Int)+1)=some y→K i=some y):∃ e,K 0=some (q e)∧(e=0↔∀ j hj,G j hj):=by
 rcases zq0 n G K (fun x=>∃ e,e≠0∧x=q e) (q 0) (fun _=>h0) (fun i hi _ h=>by obtain ⟨e,h1,h2⟩:=hno i hi h; exact ⟨_,⟨e,h1,rfl⟩,h2⟩) hyes with ⟨h1,h2⟩ | ⟨⟨j,hj,h1⟩,y,⟨e,h2,rfl⟩,h3⟩
 · exact ⟨0,h2,by simp; exact h1⟩
 · exact ⟨e,h3,fun h=>absurd h h2,fun h=>absurd (h j hj) h1⟩
theorem all_from (s n:Nat) (hs:s≤n) (G:∀ j,s≤j→j < n→Prop) (K:Int→Option β) (q:Bool→β) (h0:K n=some (q true))
  (hno:∀ (i:Nat) (hs:s≤i) (hi:i < n),¬ G i hs hi→K i=some (q false)) (hyes:∀ (i:Nat) (hs:s≤i) (hi:i < n) (y:β),G i hs hi→K ((i:Int)+1)=some y→K i=some y):K s=some (q (dec (∀ j hs hj,G j hs hj))):=by
 have h:=zpl (n - s) (fun j hj=>G (s+j) (by omega) (by omega)) (fun i=>K (s+i)) q (by rw [show ((s:Int)+((n - s:Nat):Int))=n by omega]; exact h0)
  (fun i hi hg=>by have:=hno (s+i) (by omega) (by omega) hg; rw [zs1] at this; exact this)
  (fun i hi y hg hk=>by
   have:=hyes (s+i) (by omega) (by omega) y hg (by rw [zs1,Int.add_assoc]; exact hk)
   rw [zs1] at this; exact this)
 rw [Int.add_zero] at h; rw [h]; congr 2; refine zof ⟨fun h j h1 h2=>?_,fun h j hj=>h (s+j) (by omega) (by omega)⟩; have:=h (j - s) (by omega); simpa only [show s+(j - s)=j by omega] using this
theorem zq1 {l:List α} {G:α→Prop}:(∀ j (hj:j < l.length),G l[j])↔∀ x∈l,G x:=by
 constructor
 · intro h x hx; obtain ⟨j,hj,rfl⟩:=zjC.1 hx; exact h j hj
 · exact fun h j hj=>h _ (zbp hj)
theorem ziS {i:Nat} (h:0 < i):((i:Int) - 1).toNat=i - 1:=by omega
theorem zuX {f:α→Int} {l:List α}:(∀ i (hi:i < l.length),∀ h:0 < i,f (l[i - 1]'(by omega)) < f l[i])↔AscBy f l:=by
 constructor
 · intro h j hj; exact h (j+1) hj (by omega)
 · intro h i hi h0; have:=h (i - 1) (by omega); simp only [show i - 1+1=i by omega] at this; exact this
theorem asc_lt {f:α→Int} {l:List α} (h:AscBy f l):∀ (i j:Nat) (hj:j < l.length) (hij:i < j),f (l[i]'(by omega)) < f l[j]:=by
 intro i j hj hij; obtain ⟨d,rfl⟩:∃ d,j=i+1+d:=⟨j - i - 1,by omega⟩
 induction d with
 | zero=>exact h i hj
 | succ d ih=>have h1:=ih (by omega) (by omega); have h2:=h (i+1+d) (by omega); have:l[i+1+(d+1)]'hj=l[i+1+d+1]'(by omega):=rfl; rw [this]; exact Int.lt_trans h1 h2
theorem fnd_some {p:α→Bool}:∀ {l:List α} {i j:Nat} {x:α},fnd p i l=some (j,x)→i≤j∧l[j - i]?=some x∧p x=true∧∀ k y,k < j - i→l[k]?=some y→p y=false
 | [],i,j,x,h=>by simp [fnd] at h
 | a :: l,i,j,x,h=>by
   simp only [fnd] at h; split at h
   · rename_i ha; simp only [zaE,zaS] at h; obtain ⟨rfl,rfl⟩:=h; exact ⟨zcj _,by simp,ha,fun k y hk=>by omega⟩
   · rename_i ha; obtain ⟨h1,h2,h3,h4⟩:=fnd_some h; have e:j - i=(j - (i+1))+1:=by omega
     refine ⟨by omega,by rw [e]; simpa using h2,h3,fun k y hk hy=>?_⟩
     cases k with
     | zero=>simp at hy; subst hy; simpa using ha
     | succ k=>exact h4 k y (by omega) (by simpa using hy)
theorem fnd_at {p:α→Bool} {l:List α} {j:Nat} {x:α} (h:fnd p 0 l=some (j,x)):l[j]?=some x∧p x=true∧∀ k y,k < j→l[k]?=some y→p y=false:=by have:=(fnd_some h).2; simpa using this
theorem zrc {p:α→Bool}:∀ {l:List α} {i:Nat},fnd p i l=none↔∀ x∈l,p x=false
 | [],i=>by simp [fnd]
 | a :: l,i=>by
   simp only [fnd]; split
   · rename_i ha; simp [ha]
   · rename_i ha; rw [zrc]; simp only [zbg,forall_eq_or_imp]; exact ⟨fun h=>⟨by simpa using ha,h⟩,fun h=>h.2⟩
theorem fnd_of {p:α→Bool} {l:List α} {j:Nat} {x:α} (hx:l[j]?=some x) (hp:p x=true) (hk:∀ k y,k < j→l[k]?=some y→p y=false):fnd p 0 l=some (j,x):=by
 cases h:fnd p 0 l with
 | none=>have:=zrc.1 h x (zc4 hx); rw [hp] at this; cases this
 | some q =>
   obtain ⟨i,y⟩:=q; obtain ⟨h1,h2,h3⟩:=fnd_at h; rcases Nat.lt_trichotomy i j with c | c | c
   · have:=hk i y c h1; rw [h2] at this; cases this
   · subst c; rw [hx] at h1; injection h1 with h1; rw [h1]
   · have:=h3 j x c hx; rw [hp] at this; cases this
theorem zl6 (l:List α) (p:α→Bool) (K:Int→Option β) (R:Option (Nat×α)→β) (h0:K l.length=some (R none))
  (hyes:∀ (i:Nat) (hi:i < l.length),p l[i]=true→K i=some (R (some (i,l[i])))) (hno:∀ (i:Nat) (hi:i < l.length) (y:β),p l[i]=false→K ((i:Int)+1)=some y→K i=some y):K 0=some (R (fnd p 0 l)):=by
 have H:=zq0 l.length (fun j hj=>p l[j]=false) K (fun y=>∃ i x,fnd p 0 l=some (i,x)∧y=R (some (i,x))) (R none) (fun _=>h0)
  (fun i hi hpre hn=>⟨_,⟨i,l[i],fnd_of (zaH hi) (by simpa using hn) (fun k y hk hy=>by
   obtain ⟨hk',rfl⟩:=zbU.1 hy
   exact hpre k hk),rfl⟩,hyes i hi (by simpa using hn)⟩) hno
 rcases H with ⟨h1,h2⟩ | ⟨_,y,⟨i,x,h2,rfl⟩,h3⟩
 · rw [h2,zrc.2 ((zq1 (G:=fun x=>p x=false)).1 h1)]
 · rw [h3,h2]
def mkN (n:Nat) (f:Nat→α) (d:α) (i:Nat):List α:=(List.range n).map fun j=>if j < i then f j else d
theorem zwn (n:Nat) (f:Nat→α) (d:α) (i:Nat):(mkN n f d i).length=n:=by simp [mkN]
theorem mkN_get {n:Nat} {f:Nat→α} {d:α} {i:Nat} (h:i < n):(mkN n f d i)[i]?=some d:=by simp [mkN,h]
theorem mkN_zero (n:Nat) (f:Nat→α) (d:α):mkN n f d 0=List.replicate n d:=by unfold mkN; simp only [zvC,if_false,List.map_const',aLiAs15]
theorem zyi {n:Nat} {f:Nat→α} {d:α} {i:Nat} {v:α} (hv:v=f i):(mkN n f d i).set i v=mkN n f d (i+1):=by
 subst hv; apply znA; intro j; by_cases hj:j < n
 · by_cases e:i=j
   · subst e; rw [List.getElem?_set_self (by rw [zwn]; exact hj)]; simp [mkN,hj]
   · rw [List.getElem?_set_ne e]; simp only [mkN,zeU,zqN hj,ze8]; congr 1; by_cases h:j < i
     · rw [if_pos h,iPQ]
     · rw [if_neg h,iNQ]
 · rw [zsH (by rw [zs2,zwn]; omega),zsH (by rw [zwn]; omega)]
theorem mkN_same {n:Nat} {f:Nat→α} {d:α} {i:Nat} (h:f i=d):mkN n f d i=mkN n f d (i+1):=by
 unfold mkN; apply zmL; intro j _; by_cases c:j < i
 · rw [if_pos c,iPQ]
 · by_cases e:j=i
   · subst e; rw [if_neg c,iPQ,h]
   · rw [if_neg c,iNQ]
theorem mkN_all (n:Nat) (f:Nat→α) (d:α):mkN n f d n=(List.range n).map f:=by unfold mkN; apply zmL; intro j hj; rw [if_pos (zoe.1 hj)]
theorem zkT {γ:Type} (f:α→γ) (l:List α) (i:Nat) (a:α):(List.map f l).set i (f a)=List.map f (l.set i a):=zvD.symm
theorem zd7 {γ:Type} (f:α→γ) (l:List α) (a:α):List.map f l++[f a]=List.map f (l++[a]):=by simp
theorem map_rep {γ:Type} (f:α→γ) (n:Nat) (a:α):List.replicate n (f a)=List.map f (List.replicate n a):=by simp
theorem take_len (l:List α):List.take l.length l=l:=zjD
instance (p:GPart):Decidable (OkPart p):=by unfold OkPart; infer_instance
theorem ztc (p:GPart):cw zpq [.agg (zaZ p)] []=some (zat (dec (OkPart p))):=by
 refine zzR p ?_; simp only [zhl,decide_eq_true_eq,beq_iff_eq]
 repeat' split
 all_goals first
  | (rw [zbI (by unfold OkPart; omega)]; rfl)
  | (rw [show (p.Key == 0)=dec (OkPart p) from zlU (by simp only [beq_iff_eq]; unfold OkPart; omega)]; rfl)
  | (rw [show decide (p.Key < p.Options)=dec (OkPart p) from zlU (by simp only [decide_eq_true_eq]; unfold OkPart; omega)]; rfl)
theorem zzl (p:GPart) (l:List GPart):sumMax (p :: l)=p.Max+sumMax l:=by simp [sumMax]
theorem zx6 {l:List GPart} (h:∀ p∈l,OkPart p):0≤sumMax l∧sumMax l≤40*l.length:=by
 induction l with
 | nil=>simp [sumMax]
 | cons p l ih=>have h1:=ih (fun q hq=>h q (by simp [hq])); have h2:=(h p (by simp)).1; rw [zzl,zi7]; omega
theorem zAH (l:List GPart) (h:∀ p∈l,OkPart p) (hl:l.length≤24):cw zqe [.sl 6 (List.map zaZ l)] []=some (zbv (sumMax l)):=by
 refine zAS l ?_; have hb:=zx6 h; refine zgL l (fun i r=>∀ s:Int,0≤s→0≤sumMax r→s+sumMax r=sumMax l→zla l s i=some (zbv (sumMax l))) ?_ ?_ 0 (by omega) (by omega) (by omega)
 · intro s _ _ hs; refine zsj l _ _ ?_; simp (disch:=omega) [zaY]; rw [← hs]; simp [sumMax]; rfl
 · intro i hi r hr ih s h0 h1 hs; refine zsj l _ _ ?_; have hm:=(h l[i] (zbp hi)).1; rw [zzl] at hs h1; have hr0:0≤sumMax r:=(zx6 (l:=r) (fun q hq=>h q (by rw [← hr] at hq; exact zn7 hq))).1; simp (disch:=omega) [zaO,zav,w64_id]; exact ih _ (by omega) hr0 (by omega)
theorem zyB (p:zaQ):cw zoJ [.agg (zaU p)] []=some (zat (dec (zmG p))):=by
 refine zyG p ?_; by_cases hh:((0≤p.Code∧p.Code≤31)∧(0≤p.Variant∧p.Variant < 4)∧(1≤p.Parts.length∧p.Parts.length≤24))
 · simp (disch:=omega) only [zaq,zaY]
   have hg:=fun z h0=>zq0 p.Parts.length (fun j hj=>OkPart p.Parts[j]) (fun i=>zjY p i) (fun y=>y=zat false) z h0
    (fun i hi _ hn=>⟨_,rfl,zm3 p _ (by simp (disch:=omega) [zaO,zav,ztc,zbI hn]; rfl)⟩)
    (fun i hi y hy hk=>zm3 p _ (by simp (disch:=omega) [zaO,zav,w64_id,ztc,zbV hy,hk]))
   rcases hg (zat (dec (zmG p))) (fun h=>zm3 p _ (by
    have h':=zq1.1 h; simp (disch:=omega) [zaY,zAH p.Parts h' (by omega)]; rw [show decide (sumMax p.Parts≤200)=dec (zmG p) from zlU (by simp only [decide_eq_true_eq]; unfold zmG; exact ⟨fun h=>⟨hh.1,hh.2.1,hh.2.2,h',h⟩,fun h=>h.2.2.2.2⟩)]
    rfl)) with ⟨h1,h2⟩ | ⟨⟨j,hj,h1⟩,y,rfl,h3⟩
   · exact h2
   · rw [zbI (fun h=>h1 (h.2.2.2.1 _ (zbp hj)))]; exact h3
 · rw [zbI (fun h=>hh ⟨h.1,h.2.1,h.2.2.1⟩)]; simp only [zhl,decide_eq_true_eq,zaq]
   repeat' split
   all_goals first
    | rfl
    | omega
theorem zEv {ks:List Int}:OkKeys 0 ks↔ks=[]:=by
 constructor
 · intro h
   cases ks with
   | nil=>rfl
   | cons k ks=>have:=h.1 k (by simp); omega
 · rintro rfl; exact ⟨by simp,fun j hj=>by simp at hj⟩
theorem okKeys_iff {o:Int} {ks:List Int}:(∀ j (hj:j < ks.length),(0≤ks[j]∧ks[j] < o)∧∀ h:0 < j,(ks[j - 1]'(by omega)) < ks[j])↔OkKeys o ks:=by unfold OkKeys; rw [← zuX,← zq1]; exact ⟨fun h=>⟨fun j hj=>(h j hj).1,fun j hj=>(h j hj).2⟩,fun h j hj=>⟨h.1 j hj,h.2 j hj⟩⟩
theorem znD (p:GPart) (ks:List Int) (hp:OkPart p) (hl:ks.length≤1000000):cw znQ [.agg (zaZ p),.sl 1 (List.map zan ks)] []=some (zat (dec (OkKeys p.Options ks))):=by
 refine zxN p ks ?_; by_cases hk:p.Kind=1
 · have ho:p.Options=0:=by unfold OkPart at hp; omega
   simp only [hk,beq_self_eq_true,zaF,zaq]; rw [show ((ks.length:Int) == 0)=dec (OkKeys p.Options ks) from zlU (by rw [ho,zEv]; simp)]; rfl
 · simp only [show (p.Kind == 1)=false by simpa using hk,zax]; rw [← zof okKeys_iff]; refine zpl ks.length _ (fun i=>zhL p ks i) (fun b=>zat b) ?_ ?_ ?_
   · exact zmp p ks _ (by simp (disch:=omega) only [zaq,zaY]; rfl)
   · intro i hi hg; refine zmp p ks _ ?_; by_cases h1:0≤ks[i]∧ks[i] < p.Options
     · have h0:0 < i:=by
        apply zzA
        rintro rfl
        exact hg ⟨h1,fun h=>absurd h (by omega)⟩
       have h2:¬ (ks[i - 1] < ks[i]):=fun h=>hg ⟨h1,fun _=>h⟩
       simp (disch:=omega) [zaO,zaY,zav,w64_id,ziS h0]; rfl
     · by_cases h2:ks[i] < 0
       · simp (disch:=omega) [zaO,zav]; rfl
       · simp (disch:=omega) [zaO,zaY,zav]; rfl
   · intro i hi y hg hk'; refine zmp p ks _ ?_; by_cases h0:0 < i
     · have h2:=hg.2 h0; have h1:=hg.1; simp (disch:=omega) [zaO,zaY,zav,w64_id,ziS h0,hk']
     · have h1:=hg.1; simp (disch:=omega) [zaO,zaY,zav,w64_id,hk']
theorem ztR (k:Int):cw zql [I k] []=some (zat (dec (0≤k∧k≤2))):=by
 refine zAZ k ?_; simp only [zhl,beq_iff_eq]
 repeat' split
 all_goals first
  | (rw [zbV (by omega)]; rfl)
  | (rw [zbI (by omega)]; rfl)
theorem zDL {p:zaQ} {s:zbP} (h1:s.Keys.length=p.Parts.length) (h2:s.Withdrawn.length=p.Parts.length) (hp:zmG p):(∀ j (hj:j < p.Parts.length),OkKeys p.Parts[j].Options (s.Keys[j]'(by omega))∧(0≤s.Withdrawn[j]'(by omega)∧s.Withdrawn[j]'(by omega)≤2))↔zje p s:=by
 unfold zje; constructor
 · intro h; refine ⟨hp,h1,h2,fun j x ks k a b c=>?_⟩; obtain ⟨hj,rfl⟩:=zbU.1 a; obtain ⟨_,rfl⟩:=zbU.1 b; obtain ⟨_,rfl⟩:=zbU.1 c; exact h j hj
 · intro h j hj; exact h.2.2.2 j _ _ _ (zaH hj) (zaH (by omega)) (zaH (by omega))
theorem zli (p:zaQ) (s:zbP) (hs:Short s):cw zlm [.agg (zaU p),.agg (zcJ s)] []=some (zat (dec (zje p s))):=by
 refine zBL p s ?_; simp only [zyB,zaN,zaq]; by_cases hp:zmG p
 · by_cases h1:s.Keys.length=p.Parts.length
   · by_cases h2:s.Withdrawn.length=p.Parts.length
     · simp only [zbV hp,h1,h2,zb2,zax,bne_self_eq_false]; have hpl:=hp.2.2.1; rw [← zof (zDL h1 h2 hp)]; refine zpl p.Parts.length _ (fun i=>zl9 p s i) (fun b=>zat b) ?_ ?_ ?_
       · exact zpE p s _ (by simp (disch:=omega) only [zaq,zaY]; rfl)
       · intro i hi hg; have hi1:i < s.Keys.length:=by omega
         have hi2:i < s.Withdrawn.length:=by omega
         refine zpE p s _ ?_; have hx:=hp.2.2.2.1 _ (zbp hi); by_cases h3:OkKeys p.Parts[i].Options s.Keys[i]
         · have h4:¬ (0≤s.Withdrawn[i]∧s.Withdrawn[i]≤2):=fun h=>hg ⟨h3,h⟩
           simp (disch:=omega) [zaO,zav,znD _ _ hx (hs _ (zbp hi1)),zbV h3,ztR,zbI h4]; rfl
         · simp (disch:=omega) [zaO,zav,znD _ _ hx (hs _ (zbp hi1)),zbI h3]; rfl
       · intro i hi y hg hk'; have hi1:i < s.Keys.length:=by omega
         have hi2:i < s.Withdrawn.length:=by omega
         refine zpE p s _ ?_; have hx:=hp.2.2.2.1 _ (zbp hi); simp (disch:=omega) [zaO,zav,w64_id,znD _ _ hx (hs _ (zbp hi1)),zbV hg.1,ztR,zbV hg.2,hk']
     · rw [zbI (p:=zje p s) (fun h=>h2 h.2.2.1)]; simp only [zbV hp,h1,zb2,zax,bne_self_eq_false,show ((s.Withdrawn.length:Int) != p.Parts.length)=true by simpa using (by omega:¬ ((s.Withdrawn.length:Int)=p.Parts.length)),zaF]; rfl
   · rw [zbI (p:=zje p s) (fun h=>h1 h.2.1)]; simp only [zbV hp,zb2,zax,show ((s.Keys.length:Int) != p.Parts.length)=true by simpa using (by omega:¬ ((s.Keys.length:Int)=p.Parts.length)),zaF]; rfl
 · rw [zbI hp,zbI (fun h=>hp h.1)]; rfl
theorem zhf (n:Int):cw zl0 [I n] []=some (zat (dec (0≤n∧n≤31))):=by
 refine zzX n ?_; simp only [zhl,decide_eq_true_eq]; split
 · rw [show decide (n≤31)=dec (0≤n∧n≤31) from zlU (by simp only [decide_eq_true_eq]; omega)]; rfl
 · rw [zbI (by omega)]; rfl
theorem ztS (n:Int):cw zcX [I n] []=some (zat (!dec (0≤n∧n≤31))):=
 zui n (by rw [zhf,zaN]; rfl)
theorem zBA (l:List Int) (hl:l.length≤1000000):cw zcr [.sl 1 (List.map zan l),.fn zcX []] []=some (zat (!dec (∀ n∈l,0≤n∧n≤31))):=by
 refine zqF l ?_
 have key:∃ r,cw zcK [.sl 1 (List.map zan l),.fn zcX []] []=some (zbv r)∧(0≤r↔¬ ∀ n∈l,0≤n∧n≤31):=by
  have H:=zq0 l.length (fun j hj=>0≤l[j]∧l[j]≤31) (fun i=>zgp l i) (fun y=>∃ r:Int,0≤r∧y=zbv r) (zbv (-1)) ?_ ?_ ?_
  · rcases H with ⟨h1,h2⟩ | ⟨⟨j,hj,h1⟩,y,⟨r,h2,rfl⟩,h3⟩
    · refine ⟨-1,zmy l h2,?_⟩; have:=(zq1 (G:=fun n=>0≤n∧n≤31)).1 h1; exact ⟨fun h=>by omega,fun h=>absurd this h⟩
    · exact ⟨r,zmy l h3,fun _ h=>h1 (h _ (zbp hj)),fun _=>h2⟩
  · intro h; exact ziD l _ (by simp (disch:=omega) [zaY] <;> rfl)
  · intro i hi _ hg; refine ⟨_,⟨(i:Int),by omega,rfl⟩,ziD l _ ?_⟩; simp (disch:=omega) [zaO,zav,ztS,zbI hg]; rfl
  · intro i hi y hg hk; refine ziD l _ ?_; simp (disch:=omega) [zaO,zav,w64_id,ztS,zbV hg,hk]
 obtain ⟨r,h1,h2⟩:=key; rw [h1,zbe]
 rw [show decide (0≤r)=!dec (∀ n∈l,0≤n∧n≤31) by
  by_cases hc:∀ n∈l,0≤n∧n≤31
  · rw [zbV hc]; simp only [zb2,decide_eq_false_iff_not]; exact fun h=>(h2.1 h) hc
  · rw [zbI hc]; simp only [zcN,decide_eq_true_eq]; exact h2.2 hc]
 rfl
theorem zmu (m:zbh) (hl:m.Papers.length≤1000000):cw zl1 [.agg (zbj m)] []=some (zat (dec (zlL m))):=by
 refine zwb m ?_; simp only [zhl,decide_eq_true_eq]
 repeat' split
 all_goals first
  | (rw [zbI (by unfold zlL; omega)]; rfl)
  | (rw [zBA _ hl,zaN,Bool.not_not,zof (p:=∀ n∈m.Papers,0≤n∧n≤31) (q:=zlL m) ⟨fun h=>⟨by omega,by omega,by omega,by omega,h⟩,fun h=>h.2.2.2.2⟩]; rfl)
theorem zm9 (l:List Int) (hl:l.length≤1000000):cw zqh [.sl 1 (List.map zan l)] []=some (zat (dec (AscBy id l))):=by
 refine zAT l ?_; by_cases h1:1≤l.length
 · have h:=all_from 1 l.length h1 (fun j h1 hj=>l[j - 1] < l[j]) (fun i=>zlb l i) (fun b=>zat b) ?_ ?_ ?_
   · rw [show ((1:Nat):Int)=1 from rfl] at h; rw [h]; congr 2; rw [← zuX]; exact zof ⟨fun h i hi h0=>h i h0 hi,fun h j h1 hj=>h j hj h1⟩
   · exact zlh _ _ (by simp (disch:=omega) [zaY] <;> rfl)
   · intro i h0 hi hg; refine zlh _ _ ?_; simp (disch:=omega) [zaO,zav,w64_id,ziS h0]; rfl
   · intro i h0 hi y hg hk; refine zlh _ _ ?_; simp (disch:=omega) [zaO,zaY,zav,w64_id,ziS h0,hk]
 · rw [zbV (p:=AscBy id l) (fun j hj=>by omega)]; exact zlh _ _ (by simp (disch:=omega) [zaY] <;> rfl)
theorem zCS {l:List zbh} (hl:l.length≤16):(∀ j (hj:j < l.length),(zlL l[j]∧AscBy id l[j].Papers)∧∀ h:0 < j,(l[j - 1]'(by omega)).ID < l[j].ID)↔zrt l:=by unfold zrt; rw [← zuX,← zq1]; exact ⟨fun h=>⟨hl,fun j hj=>(h j hj).1,fun j hj=>(h j hj).2⟩,fun h j hj=>⟨h.2.1 j hj,h.2.2 j hj⟩⟩
theorem zBC (l:List zbh) (hs:∀ m∈l,m.Papers.length≤1000000):∃ e,cw zq7 [.sl 5 (List.map zbj l)] []=some (zbv e)∧(e=0↔zrt l):=by
 by_cases hl:l.length≤16
 · have H:=all_err l.length (fun j hj=>(zlL l[j]∧AscBy id l[j].Papers)∧∀ h:0 < j,(l[j - 1]'(by omega)).ID < l[j].ID) (fun i=>zjK l i) (fun e=>zbv e) ?_ ?_ ?_
   · obtain ⟨e,h1,h2⟩:=H; exact ⟨e,zu7 l (by simp (disch:=omega) [zaY,h1]),h2.trans (zCS hl)⟩
   · exact zjP _ _ (by simp (disch:=omega) [zaY] <;> rfl)
   · intro i hi hg; have hp:=hs _ (zbp hi); by_cases h1:zlL l[i]
     · by_cases h2:AscBy id l[i].Papers
       · have h0:0 < i:=by
          apply zzA
          rintro rfl
          exact hg ⟨⟨h1,h2⟩,fun h=>absurd h (by omega)⟩
         have h3:¬ (l[i - 1].ID < l[i].ID):=fun h=>hg ⟨⟨h1,h2⟩,fun _=>h⟩
         refine ⟨43,by omega,zjP _ _ ?_⟩; simp (disch:=omega) [zaO,zav,w64_id,ziS h0,zmu _ hp,zbV h1,zm9 _ hp,zbV h2]; rfl
       · refine ⟨43,by omega,zjP _ _ ?_⟩; simp (disch:=omega) [zaO,zav,zmu _ hp,zbV h1,zm9 _ hp,zbI h2]; rfl
     · refine ⟨2,by omega,zjP _ _ ?_⟩; simp (disch:=omega) [zaO,zav,zmu _ hp,zbI h1]; rfl
   · intro i hi y hg hk; have hp:=hs _ (zbp hi); obtain ⟨⟨h1,h2⟩,h3⟩:=hg; refine zjP _ _ ?_; by_cases h0:0 < i
     · have h4:=h3 h0; simp (disch:=omega) [zaO,zaY,zav,w64_id,ziS h0,zmu _ hp,zbV h1,zm9 _ hp,zbV h2,hk]
     · simp (disch:=omega) [zaO,zaY,zav,w64_id,zmu _ hp,zbV h1,zm9 _ hp,zbV h2,hk]
 · refine ⟨3,zu7 l ?_,by omega,fun h=>absurd h.1 hl⟩; simp (disch:=omega) [zaO]; rfl
theorem zCT {l:List za0} (hl:l.length≤60):(∀ j (hj:j < l.length),zvx l[j]∧∀ h:0 < j,(l[j - 1]'(by omega)).Number < l[j].Number)↔zru l:=by unfold zru; rw [← zuX,← zq1]; exact ⟨fun h=>⟨hl,fun j hj=>(h j hj).1,fun j hj=>(h j hj).2⟩,fun h j hj=>⟨h.2.1 j hj,h.2.2 j hj⟩⟩
theorem zu1 (l:List za0):∃ e,cw zlk [.sl 7 (List.map za7 l)] []=some (zbv e)∧(e=0↔zru l):=by
 by_cases hl:l.length≤60
 · have H:=all_err l.length (fun j hj=>zvx l[j]∧∀ h:0 < j,(l[j - 1]'(by omega)).Number < l[j].Number) (fun i=>zgt l i) (fun e=>zbv e) ?_ ?_ ?_
   · obtain ⟨e,h1,h2⟩:=H; exact ⟨e,zpQ l (by simp (disch:=omega) [zaY,h1]),h2.trans (zCT hl)⟩
   · exact zfq _ _ (by simp (disch:=omega) [zaY] <;> rfl)
   · intro i hi hg; by_cases h1:zvx l[i]
     · have h0:0 < i:=by
        apply zzA
        rintro rfl
        exact hg ⟨h1,fun h=>absurd h (by omega)⟩
       have h3:¬ (l[i - 1].Number < l[i].Number):=fun h=>hg ⟨h1,fun _=>h⟩
       refine ⟨43,by omega,zfq _ _ ?_⟩; obtain ⟨a1,a2,a3,a4,a5,a6⟩:=h1; simp (disch:=omega) [zaO,zaY,zav,w64_id,ziS h0,zhf,zbV a1]; rw [← a5]; simp; rfl
     · by_cases a1:0≤l[i].Paper∧l[i].Paper≤31
       · by_cases a2:(0≤l[i].Candidate∧l[i].Candidate≤9999)∧(0≤l[i].Centre∧l[i].Centre≤99)∧(0≤l[i].Variant∧l[i].Variant≤31)
         · refine ⟨1,by omega,zfq _ _ ?_⟩; simp (disch:=omega) [zaO,zaY,zav,w64_id,zhf,zbV a1]; by_cases a3:l[i].Number=l[i].Paper*10000+l[i].Candidate
           · have a4:12 < (l[i].Pages.length:Int):=by apply Int.not_le.1; intro h; exact h1 ⟨a1,a2.1,a2.2.1,a2.2.2,a3,by omega⟩
             simp (disch:=omega) [a3,zaO]; rfl
           · simp [show (l[i].Number != l[i].Paper*10000+l[i].Candidate)=true by simpa using a3]; rfl
         · refine ⟨2,by omega,zfq _ _ ?_⟩; simp (disch:=omega) [zaO,zav,zhf,zbV a1]; simp only [zhl,decide_eq_true_eq]
           repeat' split
           all_goals first
            | rfl
            | omega
       · refine ⟨2,by omega,zfq _ _ ?_⟩; simp (disch:=omega) [zaO,zav,zhf,zbI a1]; rfl
   · intro i hi y hg hk; obtain ⟨h1,h3⟩:=hg; refine zfq _ _ ?_; obtain ⟨a1,a2,a3,a4,a5,a6⟩:=h1; by_cases h0:0 < i
     · have h4:=h3 h0; simp (disch:=omega) [zaO,zaY,zav,w64_id,ziS h0,zhf,zbV a1,← a5,hk]
     · simp (disch:=omega) [zaO,zaY,zav,w64_id,zhf,zbV a1,← a5,hk]
 · refine ⟨3,zpQ l ?_,by omega,fun h=>absurd h.1 hl⟩; simp (disch:=omega) [zaO]; rfl
theorem c_isScore (n:Int):cw zk8 [I n] []=some (zat (dec (0≤n∧n≤200))):=by
 refine zyM n ?_; simp only [zhl,decide_eq_true_eq]; split
 · rw [show decide (n≤200)=dec (0≤n∧n≤200) from zlU (by simp only [decide_eq_true_eq]; omega)]; rfl
 · rw [zbI (by omega)]; rfl
theorem zp7 (r:zbf) (h:OkMon r):cw zkn [.agg (zb9 r)] []=some (zbv 0):=by obtain ⟨h1,h2,h3,h4⟩:=h; refine zAX r ?_; simp (disch:=omega) [zaY,c_isScore,zbV h1,zbV h2]; rfl
theorem zAE (l:List Int) (n:Int) (hl:l.length≤1000000):cw zhv [.sl 1 (List.map zan l),I n] []=some (zat (dec (n∈l))):=by
 refine zsq l n ?_; have key:=zl6 l (fun x=>n == x) (fun i=>zhN l n i) (fun o=>zbv (match o with | some (i,_)=>(i:Int) | none=>-1)) ?_ ?_ ?_
 · rw [zun l n key,zbe]
   cases hf:fnd (fun x=>n == x) 0 l with
   | none=>rw [zbI (fun h=>by have:=zrc.1 hf n h; simp at this)]; rfl
   | some q =>
     obtain ⟨i,x⟩:=q; obtain ⟨h1,h2,_⟩:=fnd_at hf; have:n=x:=by simpa using h2
     subst this; rw [zbV (zc4 h1)]; show some (B (decide (0≤(i:Int))),[])=_; rw [show decide (0≤(i:Int))=true by simp]; rfl
 · exact zjR _ _ _ (by simp (disch:=omega) [zaY] <;> rfl)
 · intro i hi h; refine zjR _ _ _ ?_; simp (disch:=omega) [zaO,zav,h]; rfl
 · intro i hi y h hk; refine zjR _ _ _ ?_; simp (disch:=omega) [zaO,zav,w64_id,h,hk]
def accB (x:GPart) (ks:List Int) (v:Int):Bool:=if ks=[] then v == x.Key else dec (v∈ks)
theorem zxt (x:GPart) (ks:List Int) (v:Int) (hl:ks.length≤1000000):cw zpw [.agg (zaZ x),.sl 1 (List.map zan ks),I v] []=some (zat (accB x ks v)):=by
 refine zz2 x ks v ?_; unfold accB; by_cases h:ks=[]
 · rw [if_pos h,h]; rfl
 · rw [if_neg h]; have:((ks.length:Int) == 0)=false:=by simpa using h
   simp only [zaq,this,zax,zAE _ _ hl,zaN]; rfl
def znE (p:zaQ) (s:zbP) (a:List Int) (j:Nat):Int:=
 match p.Parts[j]?,s.Keys[j]?,a[j]? with
 | some x,some ks,some v=>if x.Kind=1 then -2 else if accB x ks v=true then x.Max else if v=-1 then -1 else 0
 | _,_,_=>0
def zu4 (p:zaQ) (s:zbP) (a:List Int):List Int:=(List.range p.Parts.length).map (znE p s a)
theorem kind2 {x:GPart} (h:OkPart x):x.Kind=1∨x.Kind=2:=by unfold OkPart at h; omega
theorem zAI (p:zaQ) (s:zbP) (a:List Int) (hs:Short s):∃ r:List Int×Int,cw znc [.agg (zaU p),.agg (zcJ s),.sl 1 (List.map zan a)] []=some (zhP r)∧(r.2=0↔zje p s∧OkAns p a)∧(r.2=0→r.1=zu4 p s a):=by
 by_cases hp:zje p s
 case neg=>refine ⟨([],1),zp9 p s a ?_,by simp [hp],by simp⟩; simp only [zli p s hs,zaN,zbI hp]; rfl
 obtain ⟨hP,hk,hw,hall⟩:=id hp; have hpl:=hP.2.2.1; by_cases ha:a.length=p.Parts.length
 case neg=>refine ⟨([],22),zp9 p s a ?_,by simp [OkAns,ha],by simp⟩; simp only [zli p s hs,zaN,zbV hp,zb2,zax,zaq,show ((a.length:Int) != p.Parts.length)=true by simpa using (by omega:¬ ((a.length:Int)=p.Parts.length)),zaF]; rfl
 have start:∀ y,zfN p s a 0=some y→cw znc [.agg (zaU p),.agg (zcJ s),.sl 1 (List.map zan a)] []=some y:=by intro y hy; refine zp9 p s a ?_; simp only [zli p s hs,zaN,zbV hp,zb2,zax,zaq,ha,bne_self_eq_false,hy]
 have second:zfO p s a (List.map zan (List.replicate p.Parts.length 0)) 0=some (zhP (zu4 p s a,0)):=by
  rw [← mkN_zero p.Parts.length (znE p s a) 0]; have:=zgL p.Parts (fun i r=>zfO p s a (List.map zan (mkN p.Parts.length (znE p s a) 0 i.toNat)) i=some (zhP (zu4 p s a,0))) ?_ ?_
  · exact this
  · refine zsk _ _ _ _ _ ?_; simp (disch:=omega) only [zaq,zaY,zba,mkN_all,zpI,aLiAs15,zav,zjD,zu4.eq_1]; rw [show List.take p.Parts.length (List.map zan (List.map (znE p s a) (List.range p.Parts.length)))=List.map zan (List.map (znE p s a) (List.range p.Parts.length)) from zdm (by simp)]; rfl
  · intro i hi r hr ih; have hi1:i < s.Keys.length:=by omega
    have hi2:i < a.length:=by omega
    have hkl:=hs _ (zbp hi1); refine zsk _ _ _ _ _ ?_
    have hc:znE p s a i=if p.Parts[i].Kind=1 then -2 else if accB p.Parts[i] s.Keys[i] a[i]=true then p.Parts[i].Max else if a[i]=-1 then -1 else 0:=by simp [znE,hi,hi1,hi2]
    have e1:((i:Int)+1).toNat=i+1:=by omega
    rw [e1] at ih; have hgi:(mkN p.Parts.length (znE p s a) 0 i)[i]?=some 0:=mkN_get hi; rcases kind2 (hP.2.2.2.1 _ (zbp hi)) with h1 | h1
    · rw [if_pos h1] at hc; simp (disch:=omega) [zaO,zav,h1,w64_id,hgi,zkT,zyi hc.symm,-List.map_set,ih]
    · rw [iNQ] at hc
      cases hb:accB p.Parts[i] s.Keys[i] a[i] with
      | true=>rw [if_pos hb] at hc; simp (disch:=omega) [zaO,zav,h1,w64_id,hgi,zkT,zyi hc.symm,-List.map_set,ih,zxt _ _ _ hkl,hb]
      | false =>
        rw [if_neg (by rw [hb]; simp)] at hc; by_cases h2:a[i]=-1
        · rw [if_pos h2] at hc; simp (disch:=omega) [zaO,zav,h1,w64_id,hgi,zkT,zyi hc.symm,-List.map_set,ih,zxt _ _ _ hkl,hb,← h2]; simp (disch:=omega) [h2,zkT,zyi hc.symm,-List.map_set,ih]
        · rw [if_neg h2] at hc; simp (disch:=omega) [zaO,zav,h1,w64_id,mkN_same hc,ih,zxt _ _ _ hkl,hb,show (a[i] == -1)=false by simpa using h2]
 have hfst:∀ j (hj:j < p.Parts.length),(p.Parts[j].Kind≠1→-2≤a[j]'(by omega)∧a[j]'(by omega) < p.Parts[j].Options)↔(p.Parts[j].Kind=2→-2≤a[j]'(by omega)∧a[j]'(by omega) < p.Parts[j].Options):=by intro j hj; have:=kind2 (hP.2.2.2.1 _ (zbp hj)); omega
 have H:=zq0 p.Parts.length (fun j hj=>p.Parts[j].Kind≠1→-2≤a[j]'(by omega)∧a[j]'(by omega) < p.Parts[j].Options) (fun i=>zfN p s a i) (fun y=>y=zhP ([],2)) (zhP (zu4 p s a,0)) ?_ ?_ ?_
 · rcases H with ⟨h1,h2⟩ | ⟨⟨j,hj,h1⟩,y,rfl,h3⟩
   · refine ⟨_,start _ h2,⟨fun _=>⟨hp,ha,fun j x v q1 q2 q3=>?_⟩,fun _=>rfl⟩,fun _=>rfl⟩; obtain ⟨hj,rfl⟩:=zbU.1 q1; obtain ⟨_,rfl⟩:=zbU.1 q2; exact h1 j hj q3
   · refine ⟨_,start _ h3,⟨fun h=>by simp at h,fun h=>?_⟩,fun h=>by simp at h⟩; exact absurd (fun q3=>h.2.2 j _ _ (zaH hj) (zaH (by omega)) q3) h1
 · intro _; refine zoR _ _ _ _ ?_; rw [← map_rep] at second; simp (disch:=omega) only [zaq,zaY,zav,zbt,zba,second]
 · intro i hi _ hn; have hi2:i < a.length:=by omega
   refine ⟨_,rfl,zoR _ _ _ _ ?_⟩; rcases kind2 (hP.2.2.2.1 _ (zbp hi)) with h1 | h1
   · exact absurd (fun h=>absurd h1 h) hn
   · have h2:¬ (-2≤a[i]∧a[i] < p.Parts[i].Options):=fun h=>hn (fun _=>h)
     have hop:2≤p.Parts[i].Options:=by have:=(hP.2.2.2.1 _ (zbp hi)); unfold OkPart at this; omega
     have h3:a[i]≠-1:=fun h=>h2 (by omega)
     have h4:a[i]≠-2:=fun h=>h2 (by omega)
     by_cases h5:a[i] < 0
     · simp (disch:=omega) [zaO,zav,h1,show (a[i] != -1)=true by simpa using h3,show (a[i] != -2)=true by simpa using h4]; rfl
     · simp (disch:=omega) [zaO,zaY,zav,h1,show (a[i] != -1)=true by simpa using h3,show (a[i] != -2)=true by simpa using h4]; rfl
 · intro i hi y hg hk'; have hi2:i < a.length:=by omega
   refine zoR _ _ _ _ ?_; rcases kind2 (hP.2.2.2.1 _ (zbp hi)) with h1 | h1
   · simp (disch:=omega) [zaO,zav,h1,w64_id,hk']
   · have h2:=hg (by omega); by_cases h3:a[i]=-1
     · simp (disch:=omega) [zaO,zav,h1,w64_id,h3,hk']
     · by_cases h4:a[i]=-2
       · simp (disch:=omega) [zaO,zav,h1,w64_id,h4,hk']
       · simp (disch:=omega) [zaO,zaY,zav,h1,show (a[i] != -1)=true by simpa using h3,show (a[i] != -2)=true by simpa using h4,w64_id,hk']
def zD8:za0:=⟨0,0,0,0,0,[],[]⟩
def ixR:Option (Nat×zaQ)→Int×Bool
 | some (i,_)=>((i:Int),true)
 | none=>(0,false)
def scR:Option za0→za0×Bool
 | some x=>(x,true)
 | none=>(zD8,false)
theorem zv0 (s:zaM) (n:Int) (hl:s.Scripts.length≤1000000):cw ziY [.agg (zaA s),I n] []=some (zop (scR (zkX s.Scripts n))):=by
 refine zxH s n ?_; have key:=zl6 s.Scripts (fun x=>x.Number == n) (fun i=>zjp s n i) (fun o=>zop (scR (o.map (·.2)))) ?_ ?_ ?_
 · exact key
 · exact zmo _ _ _ (by simp (disch:=omega) [zaY] <;> rfl)
 · intro i hi h; refine zmo _ _ _ ?_; simp (disch:=omega) [zaO,zav,h]; rfl
 · intro i hi y h hk; refine zmo _ _ _ ?_; simp (disch:=omega) [zaO,zav,w64_id,h,hk]
theorem zxv (s:zaM) (x:za0) (hl:s.Papers.length≤1000000):cw zjj [.agg (zaA s),.agg (za7 x)] []=some (zmC (ixR (zjb s.Papers x))):=by
 refine zyK s x ?_; have key:=zl6 s.Papers (fun p=>p.Code == x.Paper && p.Variant == x.Variant) (fun i=>zim s x i) (fun o=>zmC (ixR o)) ?_ ?_ ?_
 · exact key
 · exact zm5 _ _ _ (by simp (disch:=omega) [zaY] <;> rfl)
 · intro i hi h; refine zm5 _ _ _ ?_; rw [zcm] at h; simp (disch:=omega) [zaO,zav,h.1,h.2]; rfl
 · intro i hi y h hk; refine zm5 _ _ _ ?_
   cases h1:(s.Papers[i].Code == x.Paper) with
   | false=>simp (disch:=omega) [zaO,zav,w64_id,h1,hk]
   | true=>rw [h1,zpK] at h; simp (disch:=omega) [zaO,zav,w64_id,h1,h,hk]
theorem c_PaperOf (s:zaM) (n:Int) (h1:s.Scripts.length≤1000000) (h2:s.Papers.length≤1000000):cw zoM [.agg (zaA s),I n] []=some (zmC (ixR (zrh s n))):=by
 refine zyJ s n ?_; rw [zv0 s n h1,zkM]; unfold zrh
 cases zkX s.Scripts n with
 | none=>rfl
 | some x=>simp only [scR,zb2,zax,zxv s x h2,zpL,za4]; rfl
theorem zDw (p:zaQ) (m:List Int) (hl:p.Parts.length≤1000000) (h:zuB p m):cw zl4 [.agg (zaU p),.sl 1 (List.map zan m)] []=some (zat true):=by
 obtain ⟨h1,h2⟩:=h; refine zwe p m ?_; simp only [zaq,h1,bne_self_eq_false,zax]; refine zgL p.Parts (fun i r=>ziM p m i=some (zat true)) ?_ ?_
 · exact zpa _ _ _ (by simp (disch:=omega) [zaY] <;> rfl)
 · intro i hi r hr ih; have hi2:i < m.length:=by omega
   have:=h2 i _ _ (zaH hi) (zaH hi2); refine zpa _ _ _ ?_; simp (disch:=omega) [zaO,zaY,zav,w64_id,ih]
theorem zmb {ps:List zaQ} {x:za0} {k:Nat} {p:zaQ} (hk:zjb ps x=some (k,p)):ps[k]?=some p∧p.Code=x.Paper∧p.Variant=x.Variant:=by obtain ⟨h1,h2,_⟩:=fnd_at hk; simp only [zcm,beq_iff_eq] at h2; exact ⟨h1,h2⟩
theorem zDR {l:List za0} (h:AscBy za0.Number l) {x:za0} (hx:x∈l):zkX l x.Number=some x:=by
 obtain ⟨i,hi,rfl⟩:=zjC.1 hx; unfold zkX
 rw [fnd_of (j:=i) (x:=l[i]) (zaH hi) (by simp) (fun k y hk hy=>by
  obtain ⟨hk',rfl⟩:=zbU.1 hy; have:=asc_lt h k i hi hk; simp only [beq_eq_false_iff_ne]
  omega)]
 rfl
theorem paperOf_at {s:zaM} {n:Int} {k:Nat} {p:zaQ} (hk:zrh s n=some (k,p)):s.Papers[k]?=some p:=by
 unfold zrh at hk
 cases hx:zkX s.Scripts n with
 | none=>simp [hx] at hk
 | some x=>rw [hx] at hk; exact (zmb hk).1
section
variable {s:zaM} (h:zfH s)
include h
theorem zfH.okPaper {k:Nat} {p:zaQ} (hk:s.Papers[k]?=some p):zmG p:=by have hlt:=(zbU.1 hk).1; have:=h.len; exact (h.schemes k p _ hk (zaH (by omega))).1
theorem zCH:cw zll [.agg (zaA s)] []=some (zat true):=by
 have hp:=h.papers; have hl:=h.len; refine zu9 s ?_; simp (disch:=omega) only [zaq,zaY,hl,bne_self_eq_false,zax]; refine zgL s.Papers (fun i r=>zii s i=some (zat true)) ?_ ?_
 · exact zoD _ _ (by simp (disch:=omega) [zaY] <;> rfl)
 · intro i hi r hr ih; have hi2:i < s.Schemes.length:=by omega
   have hv:=h.schemes i _ _ (zaH hi) (zaH hi2); refine zoD _ _ ?_; simp (disch:=omega) [zaO,zav,w64_id,zli _ _ (h.short _ (zbp hi2)),zbV hv,ih]
theorem zBE:cw zkQ [.agg (zaA s)] []=some (zat true):=by
 have hp:=h.papers; have hl:=h.len; have hsl:=h.scripts.1; refine zul s ?_; refine zgL s.Scripts (fun i r=>zhK s i=some (zat true)) ?_ ?_
 · exact zn4 _ _ (by simp (disch:=omega) [zaY] <;> rfl)
 · intro i hi r hr ih; obtain ⟨k,p,c,q1,q2,q3⟩:=h.script _ (zbp hi); have hpk:=(zmb q1).1; obtain ⟨w,hw,hw1,hw2⟩:=zAI p c s.Scripts[i].Answers (h.short _ (zc4 q2)); have hw0:w.2=0:=hw1.2 ⟨h.schemes k p c hpk q2,q3⟩; refine zn4 _ _ ?_; simp (disch:=omega) [zaO,zav,w64_id,zxv s _ (by omega),q1,ixR,hpk,q2,hw,hw0,ih]
theorem zDx:cw zl5 [.agg (zaA s)] []=some (zat true):=by
 have hp:=h.papers; have hl:=h.seeds; have hsl:=h.scripts.1; refine zwf s ?_; simp (disch:=omega) only [zaq,zaY]; refine zgL s.Seeds (fun i r=>ziN s i=some (zat true)) ?_ ?_
 · exact zpb _ _ (by simp (disch:=omega) [zaY] <;> rfl)
 · intro i hi r hr ih; obtain ⟨k,p,q1,q2⟩:=h.seed _ (zbp hi); have hpk:=paperOf_at q1; have hpl:=(h.okPaper hpk).2.2.1
   have rest:zhx s i s.Seeds[i]=some (zat true):=by refine zsF _ _ _ ?_; simp (disch:=omega) [zav,w64_id,c_PaperOf s _ (by omega) (by omega),q1,ixR,hpk,zDw _ _ (by omega) q2,ih]
   refine zpb _ _ ?_; by_cases h0:0 < i
   · have:=zuX.2 h.asc i hi h0; simp (disch:=omega) [zaO,zaY,zav,w64_id,ziS h0,rest]
   · simp (disch:=omega) [zaO,zaY,zav,rest]
theorem ztQ:cw zkl [.agg (zaA s)] []=some (zbv 0):=by obtain ⟨e1,h1,h2⟩:=zBC s.Markers h.short2; obtain ⟨e2,h3,h4⟩:=zu1 s.Scripts; have g1:=h2.2 h.markers; have g2:=h4.2 h.scripts; subst g1 g2; refine zAU s ?_; simp only [h1,h3,zbe,zbe,zCH h,zBE h,zDx h,zp7 _ h.monitor,zaN,zaN,zaN,zbe,bne_self_eq_false,zb2,zax]; rfl
end
def DOk (d:zai):Prop:=0≤d.At∧d.L.length≤600
abbrev mD (d:zai):Mem:=[(1000,⟨2,zak,[zaz d],true⟩)]
theorem tmod_lt {a n:Int} (hn:0 < n):-n < a.tmod n∧a.tmod n < n:=by have h1:=Int.tmod_lt_of_pos a hn; refine ⟨?_,h1⟩; have h2:=Int.tmod_lt_of_pos (-a) hn; rw [Int.neg_tmod] at h2; omega
theorem c_Light (t:List Int):cw ztk [.sl 1 (List.map zan t)] []=some (zat (decide ((t.length:Int)≤600))):=
 zDC t (by rw [zaq]; rfl)
theorem c_Roll (t:List Int):cw zuo [.sl 1 (List.map zan t)] []=some (zuu ⟨t,0⟩):=zEh t rfl
theorem zc5 (d:zai) (n:Int) (hd:DOk d) (hn:n≤4611686018427387904):∃ (r:Int) (d':zai),cw za3 [.loc 1000 2 0 0,I n] (mD d)=some (zmc (r,d'))∧0≤r∧(r < n∨r=0)∧DOk d':=by
 by_cases h1:(d.L.length:Int)≤d.At
 · refine ⟨0,d,zlV d n ?_,by omega,.inr rfl,hd⟩; simp (disch:=omega) only [zaq,zaO]; rfl
 by_cases h2:n < 1
 · refine ⟨0,d,zlV d n ?_,by omega,.inr rfl,hd⟩; simp (disch:=omega) only [zaq,zaO,zaY]; rfl
 obtain ⟨ha,hl⟩:=hd; have hlt:d.At.toNat < d.L.length:=by omega
 have hb:=tmod_lt (a:=d.L[d.At.toNat]) (n:=n) (by omega); have hd':DOk ⟨d.L,d.At+1⟩:=⟨by show 0≤d.At+1; omega,hl⟩
 by_cases h3:(d.L[d.At.toNat]).tmod n < 0
 · refine ⟨(d.L[d.At.toNat]).tmod n+n,⟨d.L,d.At+1⟩,zlV d n ?_,by omega,.inl (by omega),hd'⟩; simp (disch:=omega) [zaO,zaY,zav,hlt,w64_id]; rfl
 · refine ⟨(d.L[d.At.toNat]).tmod n,⟨d.L,d.At+1⟩,zlV d n ?_,by omega,.inl (by omega),hd'⟩; simp (disch:=omega) [zaO,zaY,zav,hlt,w64_id]; rfl
theorem ztb (d:zai) (n:Int) (hd:DOk d) (hn:n≤4611686018427387904):∃ (r:Bool) (d':zai),cw zfu [.loc 1000 2 0 0,I n] (mD d)=some (zpz (r,d'))∧DOk d':=by obtain ⟨r,d',h,_,_,hd'⟩:=zc5 d n hd hn; exact ⟨_,d',zzT d n (by simp only [h,za2]; rfl),hd'⟩
theorem c_Pick (d:zai) (l:List Int) (hd:DOk d) (hl:l≠[]) (hl2:l.length≤1000):∃ (r:Int) (d':zai),cw ziy [.loc 1000 2 0 0,.sl 1 (List.map zan l)] (mD d)=some (zmc (r,d'))∧r∈l∧DOk d':=by
 obtain ⟨r,d',h,h0,h1,hd'⟩:=zc5 d l.length hd (by omega); have hpos:0 < l.length:=List.length_pos_iff.2 hl; have hlt:r.toNat < l.length:=by omega
 refine ⟨l[r.toNat],d',zzV d l ?_,zbp hlt,hd'⟩; simp (disch:=omega) only [zaq,h,za2,zav,zea,zaH hlt,za4]; rfl
def DPaper (p:zaQ):Prop:=p.Parts.length≤3∧1≤p.Parts.length∧(∀ x∈p.Parts,OkPart x∧x.Max≤6)∧∃ y,p.Parts[0]?=some y∧y.Kind=1∧3≤y.Max
theorem DPaper.ok {p:zaQ} (h:DPaper p) (h1:0≤p.Code∧p.Code≤31) (h2:0≤p.Variant∧p.Variant < 4):zmG p:=by obtain ⟨a,b,c,_⟩:=h; refine ⟨h1,h2,by omega,fun x hx=>(c x hx).1,?_⟩; have:=(zx6 (fun x hx=>(c x hx).1)).2; omega
theorem zyg (d:zai) (a b:Int) (hd:DOk d):∃ (p:zaQ) (d':zai),cw zfK [.loc 1000 2 0 0,I a,I b] (mD d)=some (zoO (p,d'))∧p.Code=a∧p.Variant=b∧DPaper p∧DOk d':=by
 obtain ⟨n0,d0,e0,a0,b0,hd0⟩:=zc5 d 4 hd (by omega); obtain ⟨n1,d1,e1,a1,b1,hd1⟩:=zc5 d0 3 hd0 (by omega); by_cases h1:0 < n1
 · obtain ⟨n2,d2,e2,a2,b2,hd2⟩:=zc5 d1 2 hd1 (by omega); obtain ⟨n3,d3,e3,a3,b3,hd3⟩:=zc5 d2 4 hd2 (by omega); obtain ⟨n4,d4,e4,a4,b4,hd4⟩:=zc5 d3 2 hd3 (by omega)
   have start:∀ y,zkR a b (n0,d0) (n2,d2) (n3,d3)=some y→cw zfK [.loc 1000 2 0 0,I a,I b] (mD d)=some y:=by intro y hy; refine zsg d a b ?_; simp (disch:=omega) only [e0,e1,e2,e3,za2,zaO,zav,zbt,hy]
   by_cases h4:0 < n4
   · obtain ⟨n5,d5,e5,a5,b5,hd5⟩:=zc5 d4 4 hd4 (by omega); refine ⟨⟨a,b,[⟨1,3+n0,0,0,0,0⟩,⟨2,1+n2,0,0,4,n3⟩,⟨1,2+n5,0,0,0,0⟩]⟩,d5,start _ (zo7 _ _ _ _ _ ?_),rfl,rfl,⟨by simp,by simp,?_,_,rfl,rfl,by dsimp only; omega⟩,hd5⟩
     · simp (disch:=omega) only [e4,e5,za2,zaO,zav,zbt,w64_id]; rfl
     · intro x hx; simp only [zbg,ze6,or_false] at hx; rcases hx with rfl | rfl | rfl <;> exact ⟨by unfold OkPart; dsimp only; omega,by dsimp only; omega⟩
   · refine ⟨⟨a,b,[⟨1,3+n0,0,0,0,0⟩,⟨2,1+n2,0,0,4,n3⟩]⟩,d4,start _ (zo7 _ _ _ _ _ ?_),rfl,rfl,⟨by simp,by simp,?_,_,rfl,rfl,by dsimp only; omega⟩,hd4⟩
     · simp (disch:=omega) only [e4,za2,zaY,zav,zbt,w64_id]; rfl
     · intro x hx; simp only [zbg,ze6,or_false] at hx; rcases hx with rfl | rfl <;> exact ⟨by unfold OkPart; dsimp only; omega,by dsimp only; omega⟩
 · obtain ⟨n4,d4,e4,a4,b4,hd4⟩:=zc5 d1 2 hd1 (by omega)
   have start:∀ y,zjJ a b (n0,d0) (n1,d1)=some y→cw zfK [.loc 1000 2 0 0,I a,I b] (mD d)=some y:=by intro y hy; refine zsg d a b ?_; simp (disch:=omega) only [e0,e1,za2,zaY,hy]
   by_cases h4:0 < n4
   · obtain ⟨n5,d5,e5,a5,b5,hd5⟩:=zc5 d4 4 hd4 (by omega); refine ⟨⟨a,b,[⟨1,3+n0,0,0,0,0⟩,⟨1,2+n5,0,0,0,0⟩]⟩,d5,start _ (zn1 _ _ _ _ ?_),rfl,rfl,⟨by simp,by simp,?_,_,rfl,rfl,by dsimp only; omega⟩,hd5⟩
     · simp (disch:=omega) only [e4,e5,za2,zaO,zav,zbt,w64_id]; rfl
     · intro x hx; simp only [zbg,ze6,or_false] at hx; rcases hx with rfl | rfl <;> exact ⟨by unfold OkPart; dsimp only; omega,by dsimp only; omega⟩
   · refine ⟨⟨a,b,[⟨1,3+n0,0,0,0,0⟩]⟩,d4,start _ (zn1 _ _ _ _ ?_),rfl,rfl,⟨by simp,by simp,?_,_,rfl,rfl,by dsimp only; omega⟩,hd4⟩
     · simp (disch:=omega) only [e4,za2,zaY,zav,zbt,w64_id]; rfl
     · intro x hx; simp only [zbg,ze6,or_false] at hx; subst hx; exact ⟨by unfold OkPart; dsimp only; omega,by dsimp only; omega⟩
theorem c_Scheme (d:zai) (p:zaQ) (hd:DOk d) (hp:DPaper p) (hok:zmG p):∃ (c:zbP) (d':zai),cw znH [.loc 1000 2 0 0,.agg (zaU p)] (mD d)=some (znV (c,d'))∧zje p c∧Short c∧DOk d':=by
 have hl:=hp.1; have hl2:=hp.2.1; obtain ⟨b,d0,e0,hd0⟩:=ztb d 6 hd (by omega)
 have good:∀ W:List Int,W.length=p.Parts.length→(∀ k∈W,0≤k∧k≤2)→zje p ⟨List.replicate p.Parts.length [],W⟩∧Short ⟨List.replicate p.Parts.length [],W⟩:=by
  intro W hW hk; refine ⟨⟨hok,by simp,hW,fun j x ks k q1 q2 q3=>⟨?_,hk k (zc4 q3)⟩⟩,?_⟩
  · have:=zc4 q2; rw [zvE] at this; rw [this.2]; exact ⟨by simp,fun j hj=>by simp at hj⟩
  · intro ks hks; rw [zvE] at hks; rw [hks.2]; simp
 cases b with
 | true =>
   obtain ⟨n1,d1,e1,a1,b1,hd1⟩:=zc5 d0 p.Parts.length hd0 (by omega); obtain ⟨n2,d2,e2,a2,b2,hd2⟩:=zc5 d1 2 hd1 (by omega); have hlt:n1.toNat < p.Parts.length:=by omega
   obtain ⟨g1,g2⟩:=good ((List.replicate p.Parts.length 0).set n1.toNat (1+n2)) (by simp) (by
    intro k hk; rcases aLiAs53 hk with h | h
    · rw [zvE] at h; omega
    · omega)
   refine ⟨_,d2,zrI d p ?_,g1,g2,hd2⟩; have hlt':n1.toNat < (List.replicate p.Parts.length (0:Int)).length:=by simpa using hlt
   simp (disch:=omega) only [zaq,zav,zbt,e0,e1,e2,zcx,za2,zaF,zba,zpI,zb1,map_rep zan,zea,zaH hlt',za4]; refine ztK _ _ _ _ _ ?_; simp (disch:=omega) only [zaq,zav,zbt,zba,zpI,zb1,zs2,zcj,w64_id]; rw [show List.take p.Parts.length (List.replicate p.Parts.length [AV.sl 1 []])=List.replicate p.Parts.length [AV.sl 1 []] from zdm (by simp),zdm (Nat.le_of_eq (by simp only [zs2,zpI]))]; rw [show List.replicate p.Parts.length [AV.sl 1 []]=List.map zeR (List.replicate p.Parts.length []) by simp [zeR],show List.replicate p.Parts.length [I 0]=List.map zan (List.replicate p.Parts.length 0) by simp [zan],show [I (1+n2)]=zan (1+n2) from rfl,zkT]; rfl
 | false =>
   obtain ⟨g1,g2⟩:=good (List.replicate p.Parts.length 0) (by simp) (by
    intro k hk
    rw [zvE] at hk; omega)
   refine ⟨_,d0,zrI d p ?_,g1,g2,hd0⟩; simp (disch:=omega) only [zaq,zav,zbt,e0,zcx,zax,zba]; refine zsA _ _ ?_; simp (disch:=omega) only [zaq,zav,zbt,zba,zpI,zb1,zcj]; rw [show List.take p.Parts.length (List.replicate p.Parts.length [AV.sl 1 []])=List.replicate p.Parts.length [AV.sl 1 []] from zdm (by simp),zdm (Nat.le_of_eq (by simp only [zs2,zpI]))]; rw [show List.replicate p.Parts.length [AV.sl 1 []]=List.map zeR (List.replicate p.Parts.length []) by simp [zeR],show List.replicate p.Parts.length [I 0]=List.map zan (List.replicate p.Parts.length 0) by simp [zan]]; rfl
def zn6 (ps:List zaQ):Prop:=1≤ps.length∧ps.length≤3∧(∀ p∈ps,DPaper p∧(0≤p.Code∧p.Code≤1)∧(0≤p.Variant∧p.Variant≤1))∧∀ p∈ps,∀ q∈ps,p.Code=q.Code→p.Variant=q.Variant→p=q
def ztO (ps:List zaQ) (cs:List zbP):Prop:=∀ (j:Nat) (p:zaQ) (c:zbP),ps[j]?=some p→cs[j]?=some c→zje p c∧Short c
theorem c_Papers (d:zai) (hd:DOk d):∃ (ps:List zaQ) (cs:List zbP) (d':zai),cw ziX [.loc 1000 2 0 0] (mD d)=some (zi0 ((ps,cs),d'))∧zn6 ps∧cs.length=ps.length∧ztO ps cs∧DOk d':=by
 have loop:∀ (ps:List zaQ),zn6 ps→∀ (d:zai),DOk d→∃ (cs:List zbP) (d':zai),zeJ (List.map zaU ps) (List.map zcJ []) d 0=some (zi0 ((ps,cs),d'))∧cs.length=ps.length∧ztO ps cs∧DOk d':=by
  intro ps hps d hd; have hpl:=hps.2.1; refine zgL ps (fun i r=>∀ (cs:List zbP) (d:zai),(cs.length:Int)=i→ztO ps cs→DOk d→∃ (cs':List zbP) (d':zai),zeJ (List.map zaU ps) (List.map zcJ cs) d i=some (zi0 ((ps,cs'),d'))∧cs'.length=ps.length∧ztO ps cs'∧DOk d') ?_ ?_ [] d (by simp) (by intro j p c _ h; simp at h) hd
  · intro cs d hcs hok hd; refine ⟨cs,d,zqx _ _ _ _ ?_,by omega,hok,hd⟩; simp (disch:=omega) only [zaq,zaY,zb1,zcj,zbt]; rw [zdm (by simp),zdm (by simp)]; rfl
  · intro i hi r hr ih cs d hcs hok hd; obtain ⟨g1,g2,g3⟩:=hps.2.2.1 _ (zbp hi); obtain ⟨c,d1,e1,o1,o2,hd1⟩:=c_Scheme d ps[i] hd g1 (g1.ok (by omega) (by omega))
    obtain ⟨cs',d',e2,o3,o4,hd'⟩:=ih (cs++[c]) d1 (by simp; omega) (by
     intro j p c' hp hc; by_cases hj:j < cs.length
     · rw [zvF hj] at hc; exact hok j p c' hp hc
     · have hjl:=(zbU.1 hc).1; simp at hjl; have hji:j=cs.length:=by omega
       subst hji; simp at hc; subst hc; have:i=cs.length:=by omega
       subst this; rw [zaH hi] at hp; injection hp with hp; subst hp
       exact ⟨o1,o2⟩) hd1
    refine ⟨cs',d',zqx _ _ _ _ ?_,o3,o4,hd'⟩; simp (disch:=omega) only [zaq,zaO,zav,zbt,zb1,zba,ziW,zaH hi,za4,e1,zuc,w64_id,zd7,e2]
 obtain ⟨p0,d0,e0,a0,b0,g0,hd0⟩:=zyg d 0 0 hd; obtain ⟨b,d1,e1,hd1⟩:=ztb d0 2 hd0 (by omega)
 cases b with
 | true =>
   obtain ⟨p2,d2,e2,a2,b2,g2,hd2⟩:=zyg d1 0 1 hd1; obtain ⟨b',d3,e3,hd3⟩:=ztb d2 2 hd2 (by omega)
   have start:∀ y,zj6 (p0,d0) (p2,d2)=some y→cw ziX [.loc 1000 2 0 0] (mD d)=some y:=by intro y hy; refine zrH d ?_; simp (disch:=omega) only [e0,e1,e2,zi8,zcx,zaF,zav,zbt,hy]
   cases b' with
   | true =>
     obtain ⟨p4,d4,e4,a4,b4,g4,hd4⟩:=zyg d3 1 0 hd3
     obtain ⟨cs,d',e5,o3,o4,hd'⟩:=loop [p0,p2,p4] (by
      refine ⟨by simp,by simp,?_,?_⟩ <;> simp only [zbg,ze6,or_false]
      · rintro p (rfl | rfl | rfl)
        · exact ⟨g0,by omega,by omega⟩
        · exact ⟨g2,by omega,by omega⟩
        · exact ⟨g4,by omega,by omega⟩
      · rintro p (rfl | rfl | rfl) q (rfl | rfl | rfl) h1 h2 <;> first | rfl | omega) d4 hd4
     refine ⟨[p0,p2,p4],cs,d',start _ (zoC _ _ ?_),?_,o3,o4,hd'⟩
     · simp (disch:=omega) only [e3,e4,zi8,zcx,zaF,zav,zbt]; exact e5
     · refine ⟨by simp,by simp,?_,?_⟩ <;> simp only [zbg,ze6,or_false]
       · rintro p (rfl | rfl | rfl)
         · exact ⟨g0,by omega,by omega⟩
         · exact ⟨g2,by omega,by omega⟩
         · exact ⟨g4,by omega,by omega⟩
       · rintro p (rfl | rfl | rfl) q (rfl | rfl | rfl) h1 h2 <;> first | rfl | omega
   | false =>
     have hP:zn6 [p0,p2]:=by
      refine ⟨by simp,by simp,?_,?_⟩ <;> simp only [zbg,ze6,or_false]
      · rintro p (rfl | rfl)
        · exact ⟨g0,by omega,by omega⟩
        · exact ⟨g2,by omega,by omega⟩
      · rintro p (rfl | rfl) q (rfl | rfl) h1 h2 <;> first | rfl | omega
     obtain ⟨cs,d',e5,o3,o4,hd'⟩:=loop [p0,p2] hP d3 hd3; refine ⟨[p0,p2],cs,d',start _ (zoC _ _ ?_),hP,o3,o4,hd'⟩; simp (disch:=omega) only [e3,zcx,zax]; exact e5
 | false =>
   obtain ⟨b',d3,e3,hd3⟩:=ztb d1 2 hd1 (by omega)
   have start:∀ y,zjo (p0,d0) (false,d1)=some y→cw ziX [.loc 1000 2 0 0] (mD d)=some y:=by intro y hy; refine zrH d ?_; simp (disch:=omega) only [e0,e1,zi8,zcx,zax,zav,zbt,hy]
   cases b' with
   | true =>
     obtain ⟨p4,d4,e4,a4,b4,g4,hd4⟩:=zyg d3 1 0 hd3
     have hP:zn6 [p0,p4]:=by
      refine ⟨by simp,by simp,?_,?_⟩ <;> simp only [zbg,ze6,or_false]
      · rintro p (rfl | rfl)
        · exact ⟨g0,by omega,by omega⟩
        · exact ⟨g4,by omega,by omega⟩
      · rintro p (rfl | rfl) q (rfl | rfl) h1 h2 <;> first | rfl | omega
     obtain ⟨cs,d',e5,o3,o4,hd'⟩:=loop [p0,p4] hP d4 hd4; refine ⟨[p0,p4],cs,d',start _ (znn _ _ ?_),hP,o3,o4,hd'⟩; simp (disch:=omega) only [e3,e4,zi8,zcx,zaF,zav,zbt]; exact e5
   | false =>
     have hP:zn6 [p0]:=by
      refine ⟨by simp,by simp,?_,?_⟩ <;> simp only [zbg,ze6,or_false]
      · rintro p rfl
        exact ⟨g0,by omega,by omega⟩
      · rintro p rfl q rfl h1 h2; rfl
     obtain ⟨cs,d',e5,o3,o4,hd'⟩:=loop [p0] hP d3 hd3; refine ⟨[p0],cs,d',start _ (znn _ _ ?_),hP,o3,o4,hd'⟩; simp (disch:=omega) only [e3,zcx,zax]; exact e5
def DMarkers (l:List zbh):Prop:=2≤l.length∧l.length≤5∧zrt l∧(∀ m∈l,m.Papers.length≤2)∧∀ m∈l,m.ID≤15
theorem c_Markers (d:zai) (hd:DOk d):∃ (l:List zbh) (d':zai),cw zmY [.loc 1000 2 0 0] (mD d)=some (zj0 (l,d'))∧DMarkers l∧DOk d':=by
 have asc1:∀ {l:List zbh} {m:zbh},AscBy zbh.ID l→(∀ x∈l,x.ID < m.ID)→AscBy zbh.ID (l++[m]):=by
  intro l m h1 h2 j hj; simp at hj; by_cases h:j+1 < l.length
  · rw [zqO (by omega),zqO h]; exact h1 j h
  · have hj':j+1=l.length:=by omega
    rw [zqO (by omega),List.getElem_append_right (by omega)]; simpa using h2 _ (zbp (by omega))
 have loop:∀ (k:Nat) (l:List zbh) (d:zai) (id:Int),DOk d→0≤id→id≤3*l.length→l.length+k≤5→(∀ m∈l,zlL m∧AscBy _root_.id m.Papers)→AscBy zbh.ID l→(∀ m∈l,m.ID≤id)→(∀ m∈l,m.Papers.length≤2)→∃ (l':List zbh) (d':zai),zja (List.map zbj l) d id k=some (zj0 (l',d'))∧(l'.length=l.length+k∧(∀ m∈l',zlL m∧AscBy _root_.id m.Papers)∧AscBy zbh.ID l'∧(∀ m∈l',m.Papers.length≤2)∧∀ m∈l',m.ID≤15)∧DOk d':=by
  intro k
  induction k with
  | zero=>intro l d id hd h0 h1 h2 h3 h4 h5 h6; refine ⟨l,d,zpZ _ _ _ _ ?_,⟨rfl,h3,h4,h6,fun m hm=>by have:=h5 m hm; omega⟩,hd⟩; simp (disch:=omega) only [zaY,zbt]; rfl
  | succ k ih =>
    intro l d id hd h0 h1 h2 h3 h4 h5 h6; obtain ⟨n0,d0,e0,a0,b0,hd0⟩:=zc5 d 3 hd (by omega); obtain ⟨n1,d1,e1,a1,hd1⟩:=c_Pick d0 [-1,-1,1,2,3] hd0 (by simp) (by simp); obtain ⟨n2,d2,e2,a2,hd2⟩:=c_Pick d1 [1,1,1,2,3] hd1 (by simp) (by simp); obtain ⟨n3,d3,e3,a3,hd3⟩:=c_Pick d2 [3,2,6,0,1] hd2 (by simp) (by simp); obtain ⟨n4,d4,e4,a4,b4,hd4⟩:=zc5 d3 4 hd3 (by omega); have hlt:n4.toNat < ([[0,1],[0],[1],[0,1]]:List (List Int)).length:=by simp; omega
    have hpapers:∀ q∈([[0,1],[0],[1],[0,1]]:List (List Int)),(∀ n∈q,0≤n∧n≤31)∧AscBy _root_.id q∧q.length≤2:=by
     intro q hq; simp only [zbg,ze6,or_false] at hq
     have A:AscBy _root_.id ([0,1]:List Int):=fun j hj=>by
      simp at hj; have:j=0:=by omega
      subst this; show (0:Int) < 1; omega
     rcases hq with rfl | rfl | rfl | rfl
     · exact ⟨by simp,A,by simp⟩
     · exact ⟨by simp,fun j hj=>by simp at hj,by simp⟩
     · exact ⟨by simp,fun j hj=>by simp at hj,by simp⟩
     · exact ⟨by simp,A,by simp⟩
    obtain ⟨q1,q2,q3⟩:=hpapers _ (zbp hlt); simp only [zbg,ze6,or_false] at a1 a2 a3
    obtain ⟨l',d',e5,o1,hd'⟩:=ih (l++[⟨id+(1+n0),n1,n2,n3,([[0,1],[0],[1],[0,1]]:List (List Int))[n4.toNat]⟩]) d4 (id+(1+n0)) hd4 (by omega) (by simp; omega) (by simp; omega)
     (by
      intro m hm; rcases zdx.1 hm with h | h
      · exact h3 m h
      · simp only [zhk] at h; subst h
        refine ⟨⟨?_,?_,?_,?_,q1⟩,q2⟩ <;> dsimp only <;> omega)
     (asc1 h4 (fun x hx=>by have:=h5 x hx; dsimp only; omega))
     (by
      intro m hm; rcases zdx.1 hm with h | h
      · have:=h5 m h; omega
      · simp only [zhk] at h; subst h
        dsimp only; omega)
     (by
      intro m hm; rcases zdx.1 hm with h | h
      · exact h6 m h
      · simp only [zhk] at h; subst h
        exact q3)
    refine ⟨l',d',zpZ _ _ _ _ ?_,⟨by have:=o1.1; simp at this; omega,o1.2⟩,hd'⟩; have e6:w64 (((k+1:Nat):Int) - 1)=(k:Int):=by rw [w6Q]; omega
    simp (disch:=omega) only [zaO,e0,e1,e2,e3,e4,za2,za2,zav,zbt,zaq,w64_id,e6]; rw [show ([zeR [0,1],zeR [0],zeR [1],zeR [0,1]]:List (List AV))=List.map zeR [[0,1],[0],[1],[0,1]] from rfl,zCO,zaH hlt,za4]; simp (disch:=omega) only [zav,zbt,zaq,w64_id,zd7,e5]
 obtain ⟨n,d0,e0,a0,b0,hd0⟩:=zc5 d 4 hd (by omega); obtain ⟨l',d',e1,⟨o1,o2,o3,o4,o5⟩,hd'⟩:=loop (2+n).toNat [] d0 0 hd0 (by omega) (by simp) (by simp; omega) (by simp) (fun j hj=>by simp at hj) (by simp) (by simp); simp at o1; refine ⟨l',d',zw2 d ?_,⟨by omega,by omega,⟨by omega,o2,o3⟩,o4,o5⟩,hd'⟩; simp only [e0,za2]; rw [w6Q]; rw [aLiAs43 (by omega)] at e1; exact e1
theorem asc_snoc {α:Type} {f:α→Int} {l:List α} {m:α} (h1:AscBy f l) (h2:∀ x∈l,f x < f m):AscBy f (l++[m]):=by
 intro j hj; simp at hj; by_cases h:j+1 < l.length
 · rw [zqO (by omega),zqO h]; exact h1 j h
 · have hj':j+1=l.length:=by omega
   rw [zqO (by omega),List.getElem_append_right (by omega)]; simpa using h2 _ (zbp (by omega))
def zph (n:Int) (p:zaQ) (x:za0):Prop:=
 x.Paper=p.Code∧x.Variant=p.Variant∧x.Number=p.Code*10000+x.Candidate∧(1≤x.Candidate∧x.Candidate≤n)∧(1≤x.Centre∧x.Centre≤3)∧x.Pages.length=2∧(∀ y∈x.Pages,0≤y∧y≤1000000)∧OkAns p x.Answers
theorem c_Script (d:zai) (p:zaQ) (c n:Int) (hd:DOk d) (hp:DPaper p) (h1:0≤p.Code∧p.Code≤31) (hc:1≤c∧c≤n) (hn:n≤9):∃ (x:za0) (d':zai),cw znI [.loc 1000 2 0 0,.agg (zaU p),I c] (mD d)=some (zky (x,d'))∧zph n p x∧x.Candidate=c∧DOk d':=by
 have hl:=hp.1; obtain ⟨n0,d0,e0,a0,b0,hd0⟩:=zc5 d 3 hd (by omega); obtain ⟨n1,d1,e1,a1,b1,hd1⟩:=zc5 d0 3 hd0 (by omega); have loop:=zgL p.Parts (fun i r=>∀ (a:List Int) (d2:zai),(a.length:Int)=i→DOk d2→(∀ (j:Nat) (x:GPart) (v:Int),p.Parts[j]?=some x→a[j]?=some v→x.Kind≠1→-2≤v∧v < x.Options)→∃ (x:za0) (d':zai),zhJ d p c (n0,d0) (n1,d1) (List.map zan a) d2 i=some (zky (x,d'))∧zph n p x∧x.Candidate=c∧DOk d') ?_ ?_ [] d1 (by simp) hd1 (by intro j x v _ h; simp at h)
 · obtain ⟨x,d',e2,h⟩:=loop; refine ⟨x,d',zxE d p c ?_,h⟩; simp only [e0,e1,za2]; exact e2
 · intro a d2 ha hd2 hok; refine ⟨⟨p.Code*10000+c,p.Code,c,1+n0,p.Variant,[100*c+p.Code,n1],a⟩,d2,zmn _ _ _ _ _ _ _ _ ?_,?_,rfl,hd2⟩
   · simp (disch:=omega) only [zaq,zaY,zb1,zcj,zbt,w64_id]; rw [zdm (by simp),zdm (by simp)]; rfl
   · refine ⟨rfl,rfl,rfl,hc,by dsimp only; omega,rfl,?_,by dsimp only; omega,hok⟩; intro y hy; simp only [zbg,ze6,or_false] at hy; omega
 · intro i hi r hr ih a d2 ha hd2 hok; obtain ⟨hx,_⟩:=hp.2.2.1 _ (zbp hi)
   have snoc:∀ v:Int,(p.Parts[i].Kind≠1→-2≤v∧v < p.Parts[i].Options)→∀ (j:Nat) (x:GPart) (w:Int),p.Parts[j]?=some x→(a++[v])[j]?=some w→x.Kind≠1→-2≤w∧w < x.Options:=by
    intro v hv j x w hj hw; by_cases hja:j < a.length
    · rw [zvF hja] at hw; exact hok j x w hj hw
    · have:=(zbU.1 hw).1; simp at this; have hji:j=a.length:=by omega
      subst hji; simp at hw; subst hw; have:i=a.length:=by omega
      subst this; rw [zaH hi] at hj; injection hj with hj; subst hj; exact hv
   rcases kind2 hx with hk | hk
   · obtain ⟨x,d',e2,h⟩:=ih (a++[-1]) d2 (by simp; omega) hd2 (snoc _ (fun h=>absurd hk h)); refine ⟨x,d',zmn _ _ _ _ _ _ _ _ ?_,h⟩; simp (disch:=omega) only [zaq,zaO,zav,zbt,zba,zgV,zaH hi,za4,show (p.Parts[i].Kind == 2)=false by rw [hk]; rfl,zax,w64_id,zd7 zan,e2]
   · obtain ⟨v,d3,e3,hv,hd3⟩:=c_Pick d2 [p.Parts[i].Key,0,1,-1,-2] hd2 (by simp) (by simp)
     have hv':-2≤v∧v < p.Parts[i].Options:=by unfold OkPart at hx; simp only [zbg,ze6,or_false] at hv; omega
     obtain ⟨x,d',e2,h⟩:=ih (a++[v]) d3 (by simp; omega) hd3 (snoc _ (fun _=>hv')); refine ⟨x,d',zmn _ _ _ _ _ _ _ _ ?_,h⟩; simp (disch:=omega) only [zaq,zaO,zav,zbt,zba,zgV,zaH hi,za4,show (p.Parts[i].Kind == 2)=true by rw [hk]; rfl,zaF,e3,za2,w64_id,zd7 zan,e2]
def zvw (n:Int) (ps:List zaQ) (l:List za0):Prop:=(∀ x∈l,∃ p∈ps,zph n p x)∧AscBy za0.Number l∧(l.length:Int)≤2*n
theorem c_Scripts (d:zai) (ps:List zaQ) (n:Int) (hd:DOk d) (hps:zn6 ps) (hn:0≤n∧n≤9):∃ (l:List za0) (d':zai),cw zm0 [.loc 1000 2 0 0,.sl 3 (List.map zaU ps),I n] (mD d)=some (zj1 (l,d'))∧zvw n ps l∧DOk d':=by
 have hpl:=hps.2.1
 let Inv:Int→List za0→Prop:=fun code l=>(∀ x∈l,(∃ p∈ps,zph n p x)∧x.Number < code*10000)∧AscBy za0.Number l∧(l.length:Int)≤code*n
 let Res:Option (AV×Mem)→Prop:=fun o=>∃ (l:List za0) (d':zai),o=some (zj1 (l,d'))∧zvw n ps l∧DOk d'
 have stage2:∀ (out:List za0) (d:zai),Inv 2 out→DOk d→Res (zfb ps n (List.map za7 out) d 2):=by intro out d hi hd; refine ⟨out,d,zp0 _ _ _ _ _ ?_,⟨fun x hx=>(hi.1 x hx).1,hi.2.1,hi.2.2⟩,hd⟩; simp (disch:=omega) only [zaY,zbt]; rfl
 have step:∀ (code:Int),0≤code→code≤1→(∀ (out:List za0) (d:zai),Inv (code+1) out→DOk d→Res (zfb ps n (List.map za7 out) d (code+1)))→∀ (out:List za0) (d:zai),Inv code out→DOk d→Res (zfb ps n (List.map za7 out) d code):=by
  intro code hc0 hc1 next out d hi hd
  have third:∀ (l:List zaQ),(∀ p∈l,p∈ps∧p.Code=code)→l.length≤3→∀ (m:Nat) (c:Int) (out:List za0) (d:zai),c+m=n+1→1≤c→(∀ x∈out,(∃ p∈ps,zph n p x)∧x.Number < code*10000+c)→AscBy za0.Number out→(out.length:Int)≤code*n+(c - 1)→DOk d→Res (zho ps n code (List.map zaU l) (List.map za7 out) d c):=by
   intro l hl hll m
   induction m with
   | zero =>
     intro c out d hc h1 g1 g2 g3 hd; obtain ⟨l',d',e1,h⟩:=next out d ⟨fun x hx=>⟨(g1 x hx).1,by have:=(g1 x hx).2; rw [Int.add_mul]; omega⟩,g2,by rw [Int.add_mul]; omega⟩ hd
     refine ⟨l',d',zjd _ _ _ _ _ _ _ ?_,h⟩; simp (disch:=omega) only [zaY,w64_id,e1]
   | succ m ih =>
     intro c out d hc h1 g1 g2 g3 hd; have hcn:code*n≤9:=by rcases (by omega:code=0∨code=1) with h | h <;> rw [h] <;> omega
     have hol:out.length≤20:=by omega
     by_cases hlz:0 < l.length
     · obtain ⟨n0,d0,e0,a0,b0,hd0⟩:=zc5 d 5 hd (by omega); by_cases h0:0 < n0
       · obtain ⟨n1,d1,e1,a1,b1,hd1⟩:=zc5 d0 l.length hd0 (by omega); have hlt:n1.toNat < l.length:=by omega
         obtain ⟨hp1,hp2⟩:=hl _ (zbp hlt); obtain ⟨q1,q2,q3⟩:=hps.2.2.1 _ hp1; obtain ⟨x,d2,e2,hx,hxc,hd2⟩:=c_Script d1 l[n1.toNat] c n hd1 q1 (by omega) (by omega) hn.2; have hxn:=hx.2.2.1
         obtain ⟨l',d',e3,h⟩:=ih (c+1) (out++[x]) d2 (by omega) (by omega)
          (by
           intro y hy; rcases zdx.1 hy with hy | hy
           · exact ⟨(g1 y hy).1,by have:=(g1 y hy).2; omega⟩
           · simp only [zhk] at hy; subst hy
             exact ⟨⟨_,hp1,hx⟩,by rw [hxn,hp2,hxc]; omega⟩)
          (asc_snoc g2 (fun y hy=>by rw [hxn,hp2,hxc]; exact (g1 y hy).2))
          (by simp; omega) hd2
         refine ⟨l',d',zjd _ _ _ _ _ _ _ ?_,h⟩; simp (disch:=omega) only [zaq,zaO,e0,za2,e1,zav,zbt,zb1,ziW,zaH hlt,za4,e2,zud,w64_id,zd7 za7,e3]
       · obtain ⟨l',d',e3,h⟩:=ih (c+1) out d0 (by omega) (by omega) (fun y hy=>⟨(g1 y hy).1,by have:=(g1 y hy).2; omega⟩) g2 (by omega) hd0; refine ⟨l',d',zjd _ _ _ _ _ _ _ ?_,h⟩; simp (disch:=omega) only [zaq,zaO,zaY,e0,za2,w64_id,e3]
     · obtain ⟨l',d',e1,h⟩:=next out d ⟨fun x hx=>⟨(g1 x hx).1,by have:=(g1 x hx).2; rw [Int.add_mul]; omega⟩,g2,by rw [Int.add_mul]; omega⟩ hd
       refine ⟨l',d',zjd _ _ _ _ _ _ _ ?_,h⟩; simp (disch:=omega) only [zaq,zaO,zaY,w64_id,e1]
  have second:=zgL ps (fun i r=>∀ l:List zaQ,(∀ p∈l,p∈ps∧p.Code=code)→(l.length:Int)≤i→Res (zhn ps n (List.map za7 out) d code (List.map zaU l) i)) ?_ ?_ [] (by simp) (by simp)
  · obtain ⟨l',d',e1,h⟩:=second; refine ⟨l',d',zp0 _ _ _ _ _ ?_,h⟩; simp (disch:=omega) only [zaO]; exact e1
  · intro l hl hll; obtain ⟨l',d',e1,h⟩:=third l hl (by omega) n.toNat 1 out d (by omega) (by omega) (fun x hx=>⟨(hi.1 x hx).1,by have:=(hi.1 x hx).2; omega⟩) hi.2.1 (by have:=hi.2.2; omega) hd; refine ⟨l',d',zlu _ _ _ _ _ _ _ ?_,h⟩; simp (disch:=omega) only [zaq,zaY,e1]
  · intro i hi' r hr ih l hl hll; by_cases hcode:ps[i].Code=code
    · obtain ⟨l',d',e1,h⟩:=ih (l++[ps[i]]) (by
       intro p hp; rcases zdx.1 hp with hp | hp
       · exact hl p hp
       · simp only [zhk] at hp; subst hp
         exact ⟨zbp hi',hcode⟩) (by simp; omega)
      refine ⟨l',d',zlu _ _ _ _ _ _ _ ?_,h⟩; simp (disch:=omega) only [zaq,zaO,zav,zbt,zba,ziW,zaH hi',za4,show (ps[i].Code == code)=true by simpa using hcode,zaF,w64_id,zd7 zaU,e1]
    · obtain ⟨l',d',e1,h⟩:=ih l hl (by omega); refine ⟨l',d',zlu _ _ _ _ _ _ _ ?_,h⟩; simp (disch:=omega) only [zaq,zaO,zav,zbt,zba,ziW,zaH hi',za4,show (ps[i].Code == code)=false by simpa using hcode,zax,w64_id,e1]
 have stage1:=step 1 (by omega) (by omega) stage2; have stage0:=step 0 (by omega) (by omega) stage1; obtain ⟨l,d',e1,h⟩:=stage0 [] d ⟨by simp,fun j hj=>by simp at hj,by simp⟩ hd; exact ⟨l,d',zw4 d ps n e1,h⟩
def zAD:zaQ:=⟨0,0,[]⟩
theorem zvZ (ps:List zaQ) (x:za0) (hl:ps.length≤1000000):cw znJ [.sl 3 (List.map zaU ps),.agg (za7 x)] []=some (zqs (((zjb ps x).map (·.2)).getD zAD)):=by
 refine zDD ps x ?_; have key:=zl6 ps (fun p=>p.Code == x.Paper && p.Variant == x.Variant) (fun i=>zln ps x i) (fun o=>zqs ((o.map (·.2)).getD zAD)) ?_ ?_ ?_
 · exact key
 · exact zrl _ _ _ (by simp (disch:=omega) [zaY] <;> rfl)
 · intro i hi h; refine zrl _ _ _ ?_; rw [zcm] at h; simp (disch:=omega) [zaO,zav,h.1,h.2]; rfl
 · intro i hi y h hk; refine zrl _ _ _ ?_
   cases h1:(ps[i].Code == x.Paper) with
   | false=>simp (disch:=omega) [zaO,zav,w64_id,h1,hk]
   | true=>rw [h1,zpK] at h; simp (disch:=omega) [zaO,zav,w64_id,h1,h,hk]
theorem c_Seed (d:zai) (ps:List zaQ) (x:za0) (k:Nat) (p:zaQ) (hd:DOk d) (hps:ps.length≤1000000) (hk:zjb ps x=some (k,p)) (hp:DPaper p):∃ (y:GSeed) (d':zai),cw zpt [.loc 1000 2 0 0,.sl 3 (List.map zaU ps),.agg (za7 x)] (mD d)=some (zmd (y,d'))∧y.Script=x.Number∧zuB p y.Marks∧DOk d':=by
 have hl:=hp.1; have loop:=zgL p.Parts (fun i r=>∀ (a:List Int) (d2:zai),(a.length:Int)=i→DOk d2→(∀ (j:Nat) (x:GPart) (v:Int),p.Parts[j]?=some x→a[j]?=some v→0≤v∧v≤x.Max)→∃ (y:GSeed) (d':zai),zku x p (List.map zan a) d2 i=some (zmd (y,d'))∧y.Script=x.Number∧zuB p y.Marks∧DOk d') ?_ ?_ [] d (by simp) hd (by intro j x v _ h; simp at h)
 · obtain ⟨y,d',e2,h⟩:=loop; refine ⟨y,d',zzW d ps x ?_,h⟩; simp only [zvZ ps x hps,hk,zlT]; exact e2
 · intro a d2 ha hd2 hok; refine ⟨⟨x.Number,a⟩,d2,zrQ _ _ _ _ _ ?_,rfl,⟨by dsimp only; omega,hok⟩,hd2⟩; simp (disch:=omega) only [zaq,zaY,zb1,zcj,zbt,w64_id]; rw [zdm (by simp)]; rfl
 · intro i hi r hr ih a d2 ha hd2 hok; obtain ⟨hx,hx2⟩:=hp.2.2.1 _ (zbp hi); have hm:=hx.1; obtain ⟨v,d3,e3,a3,b3,hd3⟩:=zc5 d2 (p.Parts[i].Max+1) hd2 (by omega)
   obtain ⟨y,d',e2,h⟩:=ih (a++[v]) d3 (by simp; omega) hd3 (by
    intro j x w hj hw; by_cases hja:j < a.length
    · rw [zvF hja] at hw; exact hok j x w hj hw
    · have:=(zbU.1 hw).1; simp at this; have hji:j=a.length:=by omega
      subst hji; simp at hw; subst hw; have:i=a.length:=by omega
      subst this; rw [zaH hi] at hj; injection hj with hj; subst hj
      omega)
   refine ⟨y,d',zrQ _ _ _ _ _ ?_,h⟩; simp (disch:=omega) only [zaq,zaO,zav,zbt,zba,zgV,zaH hi,za4,w64_id,e3,za2,zd7 zan,e2]
theorem c_Monitor (d:zai) (hd:DOk d):∃ (r:zbf) (d':zai),cw zmZ [.loc 1000 2 0 0] (mD d)=some (zm2 (r,d'))∧OkMon r∧DOk d':=by obtain ⟨n0,d0,e0,a0,b0,hd0⟩:=zc5 d 3 hd (by omega); obtain ⟨n1,d1,e1,a1,b1,hd1⟩:=zc5 d0 2 hd0 (by omega); obtain ⟨n2,d2,e2,a2,b2,hd2⟩:=zc5 d1 3 hd1 (by omega); obtain ⟨n3,d3,e3,a3,b3,hd3⟩:=zc5 d2 (1+n0) hd2 (by omega); refine ⟨⟨n1,n2,1+n0,1+n3⟩,d3,zw3 d ?_,by refine ⟨?_,?_,?_,?_⟩ <;> dsimp only <;> omega,hd3⟩; simp (disch:=omega) only [e0,e1,e2,za2,w64_id,e3]; rfl
structure DSetup (s:zaM):Prop where
 ok:zfH s
 papers:zn6 s.Papers
 markers:DMarkers s.Markers
 scripts:zvw 4 s.Papers s.Scripts
theorem zwu {ps:List zaQ} (hps:zn6 ps) {n:Int} {p:zaQ} {x:za0} (hp:p∈ps) (hx:zph n p x):∃ k,zjb ps x=some (k,p):=by
 unfold zjb
 cases hf:fnd (fun p=>p.Code == x.Paper && p.Variant == x.Variant) 0 ps with
 | none=>have:=zrc.1 hf p hp; rw [hx.1,hx.2.1] at this; simp at this
 | some q=>obtain ⟨k,p'⟩:=q; obtain ⟨h1,h2,_⟩:=fnd_at hf; simp only [zcm,beq_iff_eq] at h2; have:=hps.2.2.2 p' (zc4 h1) p hp (by rw [h2.1,hx.1]) (by rw [h2.2,hx.2.1]); rw [this]; exact ⟨k,rfl⟩
theorem scripts_ok {n:Int} (hn:n≤9) {ps:List zaQ} (hps:zn6 ps) {l:List za0} (h:zvw n ps l):zru l:=by refine ⟨by have:=h.2.2; omega,fun x hx=>?_,h.2.1⟩; obtain ⟨p,hp,a,b,c,d,e,f,_⟩:=h.1 x hx; obtain ⟨q1,q2,q3⟩:=hps.2.2.1 p hp; exact ⟨by omega,by omega,by omega,by omega,by rw [c,a],by omega⟩
theorem c_Setup (d:zai) (hd:DOk d):∃ (s:zaM) (d':zai),cw zoK [.loc 1000 2 0 0] (mD d)=some (zlf (s,d'))∧DSetup s∧DOk d':=by
 obtain ⟨ps,cs,d0,e0,o0,p0,q0,hd0⟩:=c_Papers d hd; obtain ⟨ms,d1,e1,o1,hd1⟩:=c_Markers d0 hd0; obtain ⟨xs,d2,e2,o2,hd2⟩:=c_Scripts d1 ps 4 hd1 o0 (by omega); obtain ⟨mr,d3,e3,o3,hd3⟩:=c_Monitor d2 hd2; have hxl:=o2.2.2; have hpl:=o0.2.1; have hxs:=scripts_ok (by omega) o0 o2; have loop:=zgL xs (fun i r=>∀ (sd:List GSeed) (d4:zai),(sd.length:Int)≤i→DOk d4→AscBy GSeed.Script sd→(∀ y∈sd,∀ x∈r,y.Script < x.Number)→(∀ y∈sd,∃ x∈xs,∃ k p,y.Script=x.Number∧zjb ps x=some (k,p)∧zuB p y.Marks)→∃ (s:zaM) (d':zai),zil ((ps,cs),d0) (ms,d1) (xs,d2) (mr,d3) (List.map zdg sd) d4 i=some (zlf (s,d'))∧DSetup s∧DOk d') ?_ ?_ [] d3 (by simp) hd3 (fun j hj=>by simp at hj) (by simp) (by simp)
 · obtain ⟨s,d',e4,h⟩:=loop; refine ⟨s,d',zyH d ?_,h⟩; simp only [e0,e1,e2,e3,zub,ztD,ztF,ztE]; exact e4
 · intro sd d4 hl hd4 ha _ hs; refine ⟨⟨ms,xs,ps,cs,sd,mr⟩,d4,zm4 _ _ _ _ _ _ _ ?_,?_,hd4⟩
   · simp (disch:=omega) only [zaq,zaY,zb1,zcj,zbt]; rw [zdm (by simp),zdm (by simp),zdm (by simp)]; rfl
   · refine ⟨⟨o1.2.2.1,hxs,by dsimp only; omega,p0,fun j p c hp hc=>(q0 j p c hp hc).1,fun x hx=>?_,by dsimp only; omega,ha,fun y hy=>?_,o3,fun c hc=>?_,fun m hm=>by have:=o1.2.2.2.1 m hm; omega⟩,o0,o1,o2⟩
     · obtain ⟨p,hp,hxp⟩:=o2.1 x hx; obtain ⟨k,hk⟩:=zwu o0 hp hxp; have hpk:=(zmb hk).1; have hlt:=(zbU.1 hpk).1; exact ⟨k,p,cs[k]'(show k < cs.length by omega),hk,zaH _,hxp.2.2.2.2.2.2.2⟩
     · obtain ⟨x,hx,k,p,h1,h2,h3⟩:=hs y hy; refine ⟨k,p,?_,h3⟩; unfold zrh; dsimp only; rw [h1,zDR hxs.2.2 hx]; exact h2
     · obtain ⟨j,hj,rfl⟩:=zjC.1 hc; exact (q0 j _ _ (zaH (by simp only at hj; omega)) (zaH hj)).2
 · intro i hi r hr ih sd d4 hl hd4 ha hlt hs; obtain ⟨b,d5,e5,hd5⟩:=ztb d4 3 hd4 (by omega)
   have hrm:∀ x∈r,x∈xs∧xs[i].Number < x.Number:=by intro x hx; rw [← hr] at hx; obtain ⟨j,hj,rfl⟩:=zjC.1 hx; rw [List.getElem_drop]; exact ⟨zbp _,asc_lt hxs.2.2 i _ _ (by omega)⟩
   cases b with
   | false=>obtain ⟨s,d',e4,h⟩:=ih sd d5 (by omega) hd5 ha (fun y hy x hx=>hlt y hy x (by simp [hx])) hs; refine ⟨s,d',zm4 _ _ _ _ _ _ _ ?_,h⟩; simp (disch:=omega) only [zaq,zaO,e5,zcx,zax,w64_id,e4]
   | true =>
     obtain ⟨p,hp,hxp⟩:=o2.1 _ (zbp hi); obtain ⟨k,hk⟩:=zwu o0 hp hxp; obtain ⟨y,d6,e6,h1,h2,hd6⟩:=c_Seed d5 ps xs[i] k p hd5 (by omega) hk (o0.2.2.1 p hp).1
     obtain ⟨s,d',e4,h⟩:=ih (sd++[y]) d6 (by simp; omega) hd6 (asc_snoc ha (fun z hz=>by rw [h1]; exact hlt z hz _ (by simp)))
      (by
       intro z hz x hx; rcases zdx.1 hz with hz | hz
       · exact hlt z hz x (by simp [hx])
       · simp only [zhk] at hz; subst hz; rw [h1]
         exact (hrm x hx).2)
      (by
       intro z hz; rcases zdx.1 hz with hz | hz
       · exact hs z hz
       · simp only [zhk] at hz; subst hz
         exact ⟨_,zbp hi,k,p,h1,hk,h2⟩)
     refine ⟨s,d',zm4 _ _ _ _ _ _ _ ?_,h⟩; simp (disch:=omega) only [zaq,zaO,e5,zcx,zaF,zav,zbt,zb1,zba,zkc,zaH hi,za4,e6,zv3,w64_id,zd7 zdg,e4]
def Sat {β:Type} (Q:β→Prop) (o:Option β):Prop:=∃ y,o=some y∧Q y
theorem sat_of {β:Type} {Q:β→Prop} {a b:Option β} (h:∀ y,a=some y→b=some y) (ha:Sat Q a):Sat Q b:=by obtain ⟨y,e,hq⟩:=ha; exact ⟨y,h y e,hq⟩
theorem zAg {β:Type} {Q:β→Prop} {y:β} (h:Q y):Sat Q (some y):=⟨y,rfl,h⟩
theorem ofScript {s:zaM} (hs:DSetup s) {x:za0} (hx:x∈s.Scripts):∃ k p,zjb s.Papers x=some (k,p)∧p∈s.Papers∧zph 4 p x∧DPaper p:=by obtain ⟨p,hp,h⟩:=hs.scripts.1 x hx; obtain ⟨k,hk⟩:=zwu hs.papers hp h; exact ⟨k,p,hk,hp,h,(hs.papers.2.2.1 p hp).1⟩
theorem c_Mark (d:zai) (s:zaM) (a b:Int) (hd:DOk d) (hs:DSetup s):∃ (e:zab) (d':zai),cw zps [.loc 1000 2 0 0,.agg (zaA s),I a,I b] (mD d)=some (zpA (e,d'))∧e.Pages.length≤12∧DOk d':=by
 have hm:=hs.markers; have hsl:=hs.scripts.2.2; have hpl:=hs.papers.2.1; obtain ⟨n0,d0,e0,a0,b0,hd0⟩:=zc5 d s.Markers.length hd (by have:=hm.2.1; omega); have hlt:n0.toNat < s.Markers.length:=by have:=hm.1; omega
 by_cases hz:s.Scripts.length=0
 · refine ⟨⟨⟨b,s.Markers[n0.toNat].ID,a⟩,0,0,0,0,0,[]⟩,d0,zpo _ _ _ _ ?_,by simp,hd0⟩; simp (disch:=omega) only [zaq,e0,za2,zav,zia,zaH hlt,za4,hz,Int.ofNat_zero,Int.natCast_zero,beq_self_eq_true,zaF,zb1,zcj,zbt]; rfl
 · obtain ⟨n1,d1,e1,a1,b1,hd1⟩:=zc5 d0 s.Scripts.length hd0 (by omega); have hl1:n1.toNat < s.Scripts.length:=by omega
   obtain ⟨k,p,hk,hp,hx,hdp⟩:=ofScript hs (zbp hl1); have hpp:=hdp.1; have hpq:=hdp.2.1; have hpg:=hx.2.2.2.2.2.1; obtain ⟨n2,d2,e2,a2,b2,hd2⟩:=zc5 d1 p.Parts.length hd1 (by omega); have hl2:n2.toNat < p.Parts.length:=by omega
   have hx2:=(hdp.2.2.1 _ (zbp hl2)).1.1; obtain ⟨n3,d3,e3,a3,b3,hd3⟩:=zc5 d2 (p.Parts[n2.toNat].Max+2) hd2 (by omega); obtain ⟨v,d4,e4,hd4⟩:=ztb d3 12 hd3 (by omega); have hz':((s.Scripts.length:Int) == 0)=false:=by simp; intro h; exact hz (by simpa using h)
   cases v with
   | true=>refine ⟨⟨⟨b,s.Markers[n0.toNat].ID,a⟩,0,s.Scripts[n1.toNat].Number,n2,n3 - 1,0,[]⟩,d4,zpo _ _ _ _ ?_,by simp,hd4⟩; simp (disch:=omega) only [zaq,e0,za2,zav,zia,zaH hlt,za4,hz',zax,e1,zkc,zaH hl1,zvZ s.Papers _ (show s.Papers.length≤1000000 by omega),hk,ze8,zir,zlT,e2,zgV,zaH hl2,w64_id,e3,e4,zcx,zaF]; exact zvr _ _ _ _ _ _ _ (by simp (disch:=omega) only [zb1,zcj,zbt,w64_id]; rfl)
   | false =>
     refine ⟨⟨⟨b,s.Markers[n0.toNat].ID,a⟩,0,s.Scripts[n1.toNat].Number,n2,n3 - 1,0,s.Scripts[n1.toNat].Pages⟩,d4,zpo _ _ _ _ ?_,by dsimp only; omega,hd4⟩; simp (disch:=omega) only [zaq,e0,za2,zav,zia,zaH hlt,za4,hz',zax,e1,zkc,zaH hl1,zvZ s.Papers _ (show s.Papers.length≤1000000 by omega),hk,ze8,zir,zlT,e2,zgV,zaH hl2,w64_id,e3,e4,zcx,zax]
     exact ztJ _ _ _ _ _ _ _ (by
      simp (disch:=omega) only [zb1,zaq,zcj,zbt,w64_id]; rw [zdm (by simp)]
      rfl)
set_option maxRecDepth 20000 in
theorem c_Events (d:zai) (s:zaM) (n:Int) (hd:DOk d) (hs:DSetup s) (hn:0≤n∧n≤50):∃ (l:List zab) (d':zai),cw znG [.loc 1000 2 0 0,.agg (zaA s),I n] (mD d)=some (zgc (l,d'))∧(l.length:Int)≤n∧(∀ e∈l,e.Pages.length≤12)∧DOk d':=by
 have hm:=hs.markers; have hm1:=hm.1; have hm2:=hm.2.1; have hsl:=hs.scripts.2.2
 let Q:AV×Mem→Prop:=fun y=>∃ (l:List zab) (d':zai),y=zgc (l,d')∧(l.length:Int)≤n∧(∀ e∈l,e.Pages.length≤12)∧DOk d'
 have loop:∀ (m:Nat) (i:Int) (out:List zab) (d:zai),i+m=n→0≤i→(out.length:Int)≤i→(∀ e∈out,e.Pages.length≤12)→DOk d→Sat Q (zcz s n (List.map zaa out) d i):=by
  intro m
  induction m with
  | zero=>intro i out d hi h0 hl hp hd; refine sat_of (fun y=>zqw _ _ _ _ _) ?_; simp (disch:=omega) only [zaY,zbt]; exact zAg ⟨out,d,rfl,by omega,hp,hd⟩
  | succ m ih =>
    intro i out d hi h0 hl hp hd; have stay:∀ d',DOk d'→Sat Q (zcz s n (List.map zaa out) d' (i+1)):=fun d' hd'=>ih (i+1) out d' (by omega) (by omega) (by omega) hp hd'
    have more:∀ e d',e.Pages.length≤12→DOk d'→Sat Q (zcz s n (List.map zaa (out++[e])) d' (i+1)):=fun e d' he hd' =>
     ih (i+1) (out++[e]) d' (by omega) (by omega) (by simp; omega) (by
      intro x hx; rcases zdx.1 hx with hx | hx
      · exact hp x hx
      · simp only [zhk] at hx
        exact hx▸he) hd'
    obtain ⟨n0,d0,e0,a0,b0,hd0⟩:=zc5 d 20 hd (by omega); obtain ⟨n1,d1,e1,a1,b1,hd1⟩:=zc5 d0 14 hd0 (by omega); refine sat_of (fun y=>zqw _ _ _ _ _) ?_; by_cases c0:n1=0
    · obtain ⟨n2,d2,e2,a2,b2,hd2⟩:=zc5 d1 s.Markers.length hd1 (by omega); have hlt:n2.toNat < s.Markers.length:=by omega
      simp only [eq_self,zbt]; simp (disch:=omega) only [zaq,zaO,e0,za2,e1,show (n1 == 0)=true by simpa using c0,zaF,e2,zav,zia,zaH hlt,za4,zbt,w64_id]; simp only [zd7 zaa]; exact more _ _ (by simp) hd2
    · by_cases c1:n1=1
      · by_cases hz:0 < s.Scripts.length
        · obtain ⟨n2,d2,e2,a2,b2,hd2⟩:=zc5 d1 s.Scripts.length hd1 (by omega); have hlt:n2.toNat < s.Scripts.length:=by omega
          obtain ⟨n3,d3,e3,a3,b3,hd3⟩:=zc5 d2 3 hd2 (by omega); simp only [eq_self,zbt]; simp (disch:=omega) only [zaq,zaO,e0,za2,e1,show (n1 == 0)=false by simpa using c0,show (n1 == 1)=true by simpa using c1,zaF,zax,e2,e3,zav,zkc,zaH hlt,za4,zbt,w64_id]; simp only [zd7 zaa]; exact more _ _ (by simp) hd3
        · simp (disch:=omega) only [zaq,zaO,zaY,e0,za2,e1,show (n1 == 0)=false by simpa using c0,show (n1 == 1)=true by simpa using c1,zaF,zax,w64_id]; exact stay _ hd1
      · by_cases c2:n1=2
        · by_cases hz:0 < out.length
          · obtain ⟨n2,d2,e2,a2,b2,hd2⟩:=zc5 d1 out.length hd1 (by omega); have hlt:n2.toNat < out.length:=by omega
            simp only [eq_self,zbt]; simp (disch:=omega) only [zaq,zaO,e0,za2,e1,show (n1 == 0)=false by simpa using c0,show (n1 == 1)=false by simpa using c1,show (n1 == 2)=true by simpa using c2,zaF,zax,e2,zav,zb1,zbL,zaH hlt,za4,zbt,w64_id]; simp only [zd7 zaa]; exact more _ _ (hp _ (zbp hlt)) hd2
          · simp (disch:=omega) only [zaq,zaO,zaY,e0,za2,e1,show (n1 == 0)=false by simpa using c0,show (n1 == 1)=false by simpa using c1,show (n1 == 2)=true by simpa using c2,zaF,zax,w64_id]; exact stay _ hd1
        · by_cases c3:n1=3
          · by_cases hz:0 < out.length
            · obtain ⟨n2,d2,e2,a2,b2,hd2⟩:=zc5 d1 out.length hd1 (by omega); have hlt:n2.toNat < out.length:=by omega
              simp only [eq_self,zbt]; simp (disch:=omega) only [zaq,zaO,e0,za2,e1,show (n1 == 0)=false by simpa using c0,show (n1 == 1)=false by simpa using c1,show (n1 == 2)=false by simpa using c2,show (n1 == 3)=true by simpa using c3,zaF,zax,e2,zav,zb1,zbL,zaH hlt,za4,zbt,w64_id (n:=i+1)]; simp only [zd7 zaa]; exact more _ _ (show out[n2.toNat].Pages.length≤12 from hp _ (zbp hlt)) hd2
            · simp (disch:=omega) only [zaq,zaO,zaY,e0,za2,e1,show (n1 == 0)=false by simpa using c0,show (n1 == 1)=false by simpa using c1,show (n1 == 2)=false by simpa using c2,show (n1 == 3)=true by simpa using c3,zaF,zax,w64_id]; exact stay _ hd1
          · obtain ⟨e,d2,e2,he,hd2⟩:=c_Mark d1 s i (w64 (w64 (5*i)+n0)) hd1 hs; simp only [eq_self,zbt]; simp (disch:=omega) only [zaq,zaO,e0,za2,e1,show (n1 == 0)=false by simpa using c0,show (n1 == 1)=false by simpa using c1,show (n1 == 2)=false by simpa using c2,show (n1 == 3)=false by simpa using c3,zax,e2,zv2,zav,zbt,w64_id (n:=i+1)]; simp only [zd7 zaa]; exact more _ _ he hd2
 obtain ⟨y,e1,l,d',rfl,h⟩:=loop n.toNat 0 [] d (by omega) (by omega) (by simp) (by simp) hd; exact ⟨l,d',zxD _ _ _ e1,h⟩
def FullEv (n:Int) (e:zab):Prop:=e.Pages.length≤12∧e.Kind=0∧n≤e.Stamp.Time∧e.Stamp.Time≤n+120∧1000≤e.Stamp.Seq∧e.Marker=0
theorem c_FullK (d:zai) (s:zaM) (n:Int) (hd:DOk d) (hs:DSetup s) (hn:0≤n∧n≤1000):∃ (l:List zab) (d':zai),cw zlY [.loc 1000 2 0 0,.agg (zaA s),I n] (mD d)=some (zgc (l,d'))∧l.length≤120∧(∀ e∈l,FullEv n e)∧DOk d':=by
 have hm2:=hs.markers.2.1; have hsl:=hs.scripts.2.2; have hpl:=hs.papers.2.1
 let Q:AV×Mem→Prop:=fun y=>∃ (l:List zab) (d':zai),y=zgc (l,d')∧l.length≤120∧(∀ e∈l,FullEv n e)∧DOk d'
 have loop:=zgL s.Scripts (fun i _=>∀ (out:List zab) (d:zai),(out.length:Int)≤15*i→(∀ e∈out,FullEv n e)→DOk d→Sat Q (zks s n (List.map zaa out) d i)) ?_ ?_ [] d (by simp) (by simp) hd
 · obtain ⟨y,e1,l,d',rfl,h⟩:=loop; exact ⟨l,d',zzU _ _ _ e1,h⟩
 · intro out d hl hp hd; refine sat_of (fun y=>zrN _ _ _ _ _) ?_; simp (disch:=omega) only [zaq,zaY,zbt]; exact zAg ⟨out,d,rfl,by omega,hp,hd⟩
 · intro i hi r _ ih out d hl hp hd; obtain ⟨k,p,hk,hpm,hx,hdp⟩:=ofScript hs (zbp hi); have hpp:=hdp.1; have hpg:=hx.2.2.2.2.2.1; refine sat_of (fun y=>zrN _ _ _ _ _) ?_; simp (disch:=omega) only [zaq,zaO,zav,zba,zkc,zaH hi,za4,zvZ s.Papers _ (show s.Papers.length≤1000000 by omega),hk,ze8,zir,zlT]; refine zgL s.Markers (fun j _=>∀ (out:List zab) (d:zai),(out.length:Int)≤15*i+3*j→(∀ e∈out,FullEv n e)→DOk d→Sat Q (zkt s n i p (List.map zaa out) d j)) ?_ ?_ out d (by omega) hp hd
   · intro out d hl hp hd; refine sat_of (fun y=>zrO _ _ _ _ _ _ _) ?_; simp (disch:=omega) only [zaq,zaY,w64_id]; exact ih out d (by omega) hp hd
   · intro j hj r _ ih2 out d hl hp hd; refine sat_of (fun y=>zrO _ _ _ _ _ _ _) ?_; simp (disch:=omega) only [zaq,zaO]; refine zgL p.Parts (fun q _=>∀ (out:List zab) (d:zai),(out.length:Int)≤15*i+3*j+q→(∀ e∈out,FullEv n e)→DOk d→Sat Q (zhm s n i p j (List.map zaa out) d q)) ?_ ?_ out d (by omega) hp hd
     · intro out d hl hp hd; refine sat_of (fun y=>zrP _ _ _ _ _ _ _ _) ?_; simp (disch:=omega) only [zaq,zaY,w64_id]; exact ih2 out d (by omega) hp hd
     · intro q hq r _ ih3 out d hl hp hd; have hmx:=(hdp.2.2.1 _ (zbp hq)).1.1; refine sat_of (fun y=>zrP _ _ _ _ _ _ _ _) ?_; by_cases hkd:p.Parts[q].Kind=1
       · obtain ⟨n0,d0,e0,a0,b0,hd0⟩:=zc5 d 4 hd (by omega); by_cases hz:0 < n0
         · obtain ⟨n1,d1,e1,a1,b1,hd1⟩:=zc5 d0 (p.Parts[q].Max+1) hd0 (by omega); simp (disch:=omega) only [zaq,zaO,zav,zba,zgV,zaH hq,za4,show (p.Parts[q].Kind == 1)=true by simpa using hkd,zaF,e0,za2,zia,zaH hj,zkc,zaH hi,w64_id,e1,zbt,zd7 zaa]; refine ih3 (out++[_]) d1 (by simp; omega) ?_ hd1; intro x hx'; rcases zdx.1 hx' with hx' | hx'
           · exact hp x hx'
           · simp only [zhk] at hx'; subst hx'; refine ⟨?_,rfl,?_,?_,?_,rfl⟩ <;> dsimp only <;> omega
         · simp (disch:=omega) only [zaq,zaO,zaY,zav,zba,zgV,zaH hq,za4,show (p.Parts[q].Kind == 1)=true by simpa using hkd,zaF,e0,za2,w64_id]; exact ih3 out d0 (by omega) hp hd0
       · simp (disch:=omega) only [zaq,zaO,zaY,zav,zba,zgV,zaH hq,za4,show (p.Parts[q].Kind == 1)=false by simpa using hkd,zax,w64_id]; exact ih3 out d (by omega) hp hd
theorem c_Full (d:zai) (s:zaM) (n:Int) (hd:DOk d) (hs:DSetup s) (hn:0≤n∧n≤1000:=by omega):∃ (l:List zab) (d':zai),cw zlY [.loc 1000 2 0 0,.agg (zaA s),I n] (mD d)=some (zgc (l,d'))∧l.length≤120∧(∀ e∈l,e.Pages.length≤12)∧DOk d':=by obtain ⟨l,d',h1,h2,h3,h4⟩:=c_FullK d s n hd hs hn; exact ⟨l,d',h1,h2,fun e he=>(h3 e he).1,h4⟩
theorem zCF (s:zaW):cw zr0 [.agg (zb5 s)] []=some (zat (dec (zpF s))):=by
 refine zCK s ?_; simp only [zhl,decide_eq_true_eq]
 repeat' split
 all_goals first
  | (rw [zbI (by unfold zpF; omega)]; rfl)
  | (rw [show decide (s.Seq≤9999)=dec (zpF s) from zlU (by simp only [decide_eq_true_eq]; unfold zpF; omega)]; rfl)
theorem zsn (a b c:Int):cw zkq [I a,I b,I c] []=some (zat (dec (b≤a∧a≤c))):=by
 refine e_ref28_in a b c ?_; simp only [zhl,decide_eq_true_eq]; split
 · rw [show decide (a≤c)=dec (b≤a∧a≤c) from zlU (by simp only [decide_eq_true_eq]; omega)]; rfl
 · rw [zbI (by omega)]; rfl
theorem zCG (e:zab):cw zr1 [.agg (zaa e)] []=some (zat (dec (zsG e))):=by
 refine zCL e ?_; simp only [zCF,zsn,zaN,zaN,zaq]; by_cases h1:zpF e.Stamp
 · by_cases h2:0≤e.Script∧e.Script≤319999
   · by_cases h3:e.Pages.length≤12
     · simp (disch:=omega) only [zbV h1,zbV h2,zb2,zax,zaY]; have H:=zpl e.Pages.length (fun j hj=>0≤e.Pages[j]∧e.Pages[j]≤1152921504606846976) (fun i=>zni e i) (fun b=>zat (b && dec (OkKind e))) ?_ ?_ ?_
       · rw [H]; congr 2; rw [zyd]; simp only [zcm,zy3,zsG]; rw [zq1 (G:=fun n=>0≤n∧n≤1152921504606846976)]; exact ⟨fun ⟨a,b⟩=>⟨h1,h2,h3,a,b⟩,fun ⟨_,_,_,a,b⟩=>⟨a,b⟩⟩
       · refine zqD _ _ ?_; simp (disch:=omega) only [zaq,zaY,zsn,zaN,zpK]; simp only [zhl,decide_eq_true_eq,beq_iff_eq,zy3]
         repeat' split
         all_goals first
          | (rw [zbI (by unfold OkKind; omega)]; rfl)
          | (refine congrArg some (congrArg zat (?_:_=dec (OkKind e)):_=zat _)
             refine zlU ?_; simp only [beq_iff_eq]; unfold OkKind
             omega)
       · intro i hi hn; refine zqD _ _ ?_; simp (disch:=omega) only [zaq,zaO,zav,zba,zea,zaH hi,za4,zsn,zaN,zbI hn,zcN,zaF,zlP]; rfl
       · intro i hi y hg hk; refine zqD _ _ ?_; simp (disch:=omega) only [zaq,zaO,zav,zba,zea,zaH hi,za4,zsn,zaN,zbV hg,zb2,zax,w64_id,hk]
     · simp (disch:=omega) only [zbV h1,zbV h2,zb2,zax,zaO]; rw [zbI (fun h=>h3 h.2.2.1)]; rfl
   · simp only [zbV h1,zbI h2,zb2,zcN,zax,zaF]; rw [zbI (fun h=>h2 h.2.1)]; rfl
 · simp only [zbI h1,zcN,zaF]; rw [zbI (fun h=>h1 h.1)]; rfl
theorem zEb (a b:List Int) (hl:a.length≤1000000):cw zoN [.sl 1 (List.map zan a),.sl 1 (List.map zan b)] []=some (zat (dec (a=b))):=by
 refine zyO a b ?_; by_cases h:a.length=b.length
 · simp only [zaq,h,bne_self_eq_false,zax]; have H:=zpl a.length (fun j hj=>a[j]=b[j]'(by omega)) (fun i=>zjZ a b i) zat ?_ ?_ ?_
   · rw [H,zof]; exact ⟨fun hh=>zs3 h (fun i h1 h2=>hh i h1),fun hh=>by subst hh; intros; rfl⟩
   · exact zm6 _ _ _ (by simp (disch:=omega) only [zaq,zaY]; rfl)
   · intro i hi hn; refine zm6 _ _ _ ?_; simp (disch:=omega) only [zaq,zaO,zav,zba,zea,zaH hi,zaH (show i < b.length by omega),za4,show (a[i] != b[i]'(by omega))=true by simpa using hn,zaF]; rfl
   · intro i hi y hn hk; refine zm6 _ _ _ ?_; simp (disch:=omega) only [zaq,zaO,zav,zba,zea,zaH hi,zaH (show i < b.length by omega),za4,show (a[i] != b[i]'(by omega))=false by simpa using hn,zax,w64_id,hk]
 · rw [zbI (fun hh=>h (by rw [hh]))]; simp only [zaq,show ((a.length:Int) != (b.length:Int))=true by simp only [bne_iff_ne,ne_eq]; omega,zaF]; rfl
theorem zDt (a b:zab) (hl:a.Pages.length≤1000000):cw ztm [.agg (zaa a),.agg (zaa b)] []=some (zat (dec (a=b))):=by
 refine zDF a b ?_; obtain ⟨⟨a1,a2,a3⟩,a4,a5,a6,a7,a8,a9⟩:=a; obtain ⟨⟨b1,b2,b3⟩,b4,b5,b6,b7,b8,b9⟩:=b; simp only [zhl,beq_iff_eq,zcm,zpi,zEb _ _ hl,zaN]
 repeat' split
 all_goals first
  | (rw [zbI (by simp only [zab.mk.injEq,zaW.mk.injEq]; omega)]; rfl)
  | (refine congrArg some (congrArg zat (zof ?_):_=zat _)
     simp only [zab.mk.injEq,zaW.mk.injEq]
     simp [*])
theorem zDs (a b:zaW):cw ztl [.agg (zb5 a),.agg (zb5 b)] []=some (zat (lessS a b)):=by
 refine zDE a b ?_; unfold lessS; simp only [zhl,bne_iff_ne]; split
 · rfl
 · split <;> rfl
theorem zBD (a b:zab):cw zra [.agg (zaa a),.agg (zaa b)] []=some (zat (lessS a.Stamp b.Stamp)):=by refine zBK a b ?_; simp only [zDs,zaN]; rfl
end Go.Proofs.YtikogkgdkdmljaaGreat
end
