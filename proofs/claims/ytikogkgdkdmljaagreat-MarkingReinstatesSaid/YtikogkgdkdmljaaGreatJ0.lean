/- Loops and branches of printed trees. -/
import Derived.Test.YtikogkgdkdmljaaGreatK5
import Derived.Test.YtikogkgdkdmljaaGreatAb9
noncomputable section
namespace Go.Proofs.YtikogkgdkdmljaaGreat
open Go.Ab
theorem w6Q {n:Int} (h1:-9223372036854775808≤n:=by omega) (h2:n < 9223372036854775808:=by omega):w64 n=n:=w64_id h1 h2
theorem iNQ {c:Prop} [Decidable c] {α:Type} {t e:α} (h:¬c:=by omega):ite c t e=e:=if_neg h
theorem iPQ {c:Prop} [Decidable c] {α:Type} {t e:α} (h:c:=by omega):ite c t e=t:=if_pos h
theorem iNs {c:Prop} [Decidable c] {α:Type} {t e:α} (h:¬c:=by simp):ite c t e=e:=if_neg h
theorem cPQ {p:Prop} {β:Type} {x:Option β} (h:p:=by omega):chk p x=x:=zax h x
theorem zb6 {p:Prop} (h:p):dec p=true:=by unfold dec; simp [h]
theorem zca {p:Prop} (h:¬p):dec p=false:=by unfold dec; simp [h]
theorem znY {p q:Prop} (h:p↔q):dec p=dec q:=by rw [propext h]
theorem zDL {p:Prop}:dec p=true↔p:=by unfold dec; simp
theorem zqA {b:Bool} {p:Prop} (h:b=true↔p):b=dec p:=by
 by_cases hp:p
 · rw [zb6 hp]; exact h.2 hp
 · rw [zca hp]; cases b with
   | true=>exact absurd (h.1 rfl) hp
   | false=>rfl
theorem zj2 {β:Type} (b:Bool) (t e:Option β):brn b t e=if b=true then t else e:=by cases b <;> rfl
variable {α β:Type}
theorem zf7 (l:List α) (P:Int→List α→Prop) (h0:P l.length [])
  (hs:∀ (i:Nat) (hi:i < l.length) (r:List α),l.drop (i+1)=r→P ((i:Int)+1) r→P i (l[i] :: r)):P 0 l:=by
 have key:∀ (n i:Nat),i+n=l.length→P (i:Int) (l.drop i):=by
  intro n
  induction n with
  | zero=>intro i hi; have:l.drop i=[]:=aLiAs23 (by omega); rw [this,show i=l.length by omega]; exact h0
  | succ n ih =>
    intro i hi; have hlt:i < l.length:=by omega
    rw [zju hlt]; have:=ih (i+1) (by omega); rw [zsx] at this; exact hs i hlt _ rfl this
 have:=key l.length 0 (by omega); simpa using this
theorem zqw (n:Nat) (G:∀ j,j < n→Prop) (K:Int→Option β) (S:β→Prop) (z:β) (h0:(∀ j hj,G j hj)→K n=some z)
  (hno:∀ (i:Nat) (hi:i < n),(∀ j (hj:j < i),G j (by omega))→¬ G i hi→∃ y,S y∧K i=some y) (hyes:∀ (i:Nat) (hi:i < n) (y:β),G i hi→K ((i:Int)+1)=some y→K i=some y):((∀ j hj,G j hj)∧K 0=some z)∨((∃ j hj,¬ G j hj)∧∃ y,S y∧K 0=some y):=by
 have key:∀ (m i:Nat),i+m=n→(∀ j (hj:j < i) (hn:j < n),G j hn)→((∀ j hj,i≤j→G j hj)∧K (i:Int)=some z)∨((∃ j hj,¬ G j hj)∧∃ y,S y∧K (i:Int)=some y):=by
  intro m
  induction m with
  | zero=>intro i hi hpre; left; refine ⟨fun j hj h=>by omega,?_⟩; rw [show i=n by omega,h0 (fun j hj=>hpre j (by omega) hj)]
  | succ m ih =>
    intro i hi hpre; by_cases hg:G i (by omega)
    · have:=ih (i+1) (by omega) (fun j hj hn=>by
       by_cases e:j=i
       · subst e; exact hg
       · exact hpre j (by omega) hn)
      rw [zsx] at this; rcases this with ⟨h1,h2⟩ | ⟨h1,y,h2,h3⟩
      · left; refine ⟨fun j hj h=>?_,hyes i (by omega) z hg h2⟩; by_cases e:j=i
        · subst e; exact hg
        · exact h1 j hj (by omega)
      · exact .inr ⟨h1,y,h2,hyes i (by omega) y hg h3⟩
    · exact .inr ⟨⟨i,by omega,hg⟩,hno i (by omega) (fun j hj=>hpre j hj _) hg⟩
 rcases key n 0 (by omega) (fun j hj=>by omega) with ⟨h1,h2⟩ | h
 · exact .inl ⟨fun j hj=>h1 j hj (znW _),h2⟩
 · exact .inr h
theorem zo0 (n:Nat) (G:∀ j,j < n→Prop) (K:Int→Option β) (q:Bool→β) (h0:K n=some (q true))
  (hno:∀ (i:Nat) (hi:i < n),¬ G i hi→K i=some (q false)) (hyes:∀ (i:Nat) (hi:i < n) (y:β),G i hi→K ((i:Int)+1)=some y→K i=some y):K 0=some (q (dec (∀ j hj,G j hj))):=by
 rcases zqw n G K (fun x=>x=q false) (q true) (fun _=>h0) (fun i hi _ h=>⟨_,rfl,hno i hi h⟩) hyes with ⟨h1,h2⟩ | ⟨⟨j,hj,h1⟩,y,rfl,h2⟩
 · rw [h2,zb6 h1]
 · rw [h2,zca (fun h=>h1 (h j hj))]
theorem any_bool (n:Nat) (G:∀ j,j < n→Prop) (K:Int→Option β) (q:Bool→β) (h0:K n=some (q false))
  (hyes:∀ (i:Nat) (hi:i < n),G i hi→K i=some (q true)) (hno:∀ (i:Nat) (hi:i < n) (y:β),¬ G i hi→K ((i:Int)+1)=some y→K i=some y):K 0=some (q (dec (∃ j hj,G j hj))):=by
 have h:=zo0 n (fun i hi=>¬ G i hi) K (fun b=>q (!b)) (by simpa using h0) (fun i hi hg=>by simpa using hyes i hi (Classical.not_not.1 hg)) hno; rw [h]; congr 2; by_cases hp:∃ j hj,G j hj
 · rw [zb6 hp,zca (fun h=>by obtain ⟨j,h1,h2⟩:=hp; exact h j h1 h2)]; rfl
 · rw [zca hp,zb6 (fun j h1 h2=>hp ⟨j,h1,h2⟩)]; rfl
theorem all_err (n:Nat) (G:∀ j,j < n→Prop) (K:Int→Option β) (q:Int→β) (h0:K n=some (q 0))
  (hno:∀ (i:Nat) (hi:i < n),¬ G i hi→∃ e,e≠0∧K i=some (q e)) (hyes:∀ (i:Nat) (hi:i < n) (y:β),G i hi→K ((i:Int)+1)=some y→K i=some y):∃ e,K 0=some (q e)∧(e=0↔∀ j hj,G j hj):=by
 rcases zqw n G K (fun x=>∃ e,e≠0∧x=q e) (q 0) (fun _=>h0) (fun i hi _ h=>by obtain ⟨e,h1,h2⟩:=hno i hi h; exact ⟨_,⟨e,h1,rfl⟩,h2⟩) hyes with ⟨h1,h2⟩ | ⟨⟨j,hj,h1⟩,y,⟨e,h2,rfl⟩,h3⟩
 · exact ⟨0,h2,by simp; exact h1⟩
 · exact ⟨e,h3,fun h=>absurd h h2,fun h=>absurd (h j hj) h1⟩
theorem all_from (s n:Nat) (hs:s≤n) (G:∀ j,s≤j→j < n→Prop) (K:Int→Option β) (q:Bool→β) (h0:K n=some (q true))
  (hno:∀ (i:Nat) (hs:s≤i) (hi:i < n),¬ G i hs hi→K i=some (q false)) (hyes:∀ (i:Nat) (hs:s≤i) (hi:i < n) (y:β),G i hs hi→K ((i:Int)+1)=some y→K i=some y):K s=some (q (dec (∀ j hs hj,G j hs hj))):=by
 have h:=zo0 (n - s) (fun j hj=>G (s+j) (by omega) (by omega)) (fun i=>K (s+i)) q (by rw [show ((s:Int)+((n - s:Nat):Int))=n by omega]; exact h0)
  (fun i hi hg=>by have:=hno (s+i) (by omega) (by omega) hg; rw [zsx] at this; exact this)
  (fun i hi y hg hk=>by
   have:=hyes (s+i) (by omega) (by omega) y hg (by rw [zsx,Int.add_assoc]; exact hk)
   rw [zsx] at this; exact this)
 rw [Int.add_zero] at h; rw [h]; congr 2; refine znY ⟨fun h j h1 h2=>?_,fun h j hj=>h (s+j) (by omega) (by omega)⟩; have:=h (j - s) (by omega); simpa only [show s+(j - s)=j by omega] using this
theorem zsi {l:List α} {G:α→Prop}:(∀ j (hj:j < l.length),G l[j])↔∀ x∈l,G x:=by
 constructor
 · intro h x hx; obtain ⟨j,hj,rfl⟩:=zlG.1 hx; exact h j hj
 · exact fun h j hj=>h _ (zbs hj)
theorem ziH {i:Nat} (h:0 < i):((i:Int) - 1).toNat=i - 1:=by omega
theorem zuy {f:α→Int} {l:List α}:(∀ i (hi:i < l.length),∀ h:0 < i,f (l[i - 1]'(by omega)) < f l[i])↔AscBy f l:=by
 constructor
 · intro h j hj; exact h (j+1) hj (by omega)
 · intro h i hi h0; have:=h (i - 1) (by omega); simp only [show i - 1+1=i by omega] at this; exact this
theorem asc_lt {f:α→Int} {l:List α} (h:AscBy f l):∀ (i j:Nat) (hj:j < l.length) (hij:i < j),f (l[i]'(by omega)) < f l[j]:=by
 intro i j hj hij; obtain ⟨d,rfl⟩:∃ d,j=i+1+d:=⟨j - i - 1,by omega⟩
 induction d with
 | zero=>exact h i hj
 | succ d ih=>have h1:=ih (by omega) (by omega); have h2:=h (i+1+d) (by omega); have:l[i+1+(d+1)]'hj=l[i+1+d+1]'(by omega):=rfl; rw [this]; exact Int.lt_trans h1 h2
theorem fnd_some {p:α→Bool}:∀ {l:List α} {i j:Nat} {x:α},fnd p i l=some (j,x)→i≤j∧l[j - i]?=some x∧p x=true∧∀ k y,k < j - i→l[k]?=some y→p y=false
 | [],i,j,x,h=>by simp [fnd] at h
 | a :: l,i,j,x,h=>by
   simp only [fnd] at h; split at h
   · rename_i ha; simp only [zaE,zaS] at h; obtain ⟨rfl,rfl⟩:=h; exact ⟨zcx _,by simp,ha,fun k y hk=>by omega⟩
   · rename_i ha; obtain ⟨h1,h2,h3,h4⟩:=fnd_some h; have e:j - i=(j - (i+1))+1:=by omega
     refine ⟨by omega,by rw [e]; simpa using h2,h3,fun k y hk hy=>?_⟩
     cases k with
     | zero=>simp at hy; subst hy; simpa using ha
     | succ k=>exact h4 k y (by omega) (by simpa using hy)
theorem fnd_at {p:α→Bool} {l:List α} {j:Nat} {x:α} (h:fnd p 0 l=some (j,x)):l[j]?=some x∧p x=true∧∀ k y,k < j→l[k]?=some y→p y=false:=by have:=(fnd_some h).2; simpa using this
theorem zqH {p:α→Bool}:∀ {l:List α} {i:Nat},fnd p i l=none↔∀ x∈l,p x=false
 | [],i=>by simp [fnd]
 | a :: l,i=>by
   simp only [fnd]; split
   · rename_i ha; simp [ha]
   · rename_i ha; rw [zqH]; simp only [zbd,forall_eq_or_imp]; exact ⟨fun h=>⟨by simpa using ha,h⟩,fun h=>h.2⟩
theorem fnd_of {p:α→Bool} {l:List α} {j:Nat} {x:α} (hx:l[j]?=some x) (hp:p x=true) (hk:∀ k y,k < j→l[k]?=some y→p y=false):fnd p 0 l=some (j,x):=by
 cases h:fnd p 0 l with
 | none=>have:=zqH.1 h x (zcs hx); rw [hp] at this; cases this
 | some q =>
   obtain ⟨i,y⟩:=q; obtain ⟨h1,h2,h3⟩:=fnd_at h; rcases zza i j with c | c | c
   · have:=hk i y c h1; rw [h2] at this; cases this
   · subst c; rw [hx] at h1; injection h1 with h1; rw [h1]
   · have:=h3 j x c hx; rw [hp] at this; cases this
theorem zi6 (l:List α) (p:α→Bool) (K:Int→Option β) (R:Option (Nat×α)→β) (h0:K l.length=some (R none))
  (hyes:∀ (i:Nat) (hi:i < l.length),p l[i]=true→K i=some (R (some (i,l[i])))) (hno:∀ (i:Nat) (hi:i < l.length) (y:β),p l[i]=false→K ((i:Int)+1)=some y→K i=some y):K 0=some (R (fnd p 0 l)):=by
 have H:=zqw l.length (fun j hj=>p l[j]=false) K (fun y=>∃ i x,fnd p 0 l=some (i,x)∧y=R (some (i,x))) (R none) (fun _=>h0)
  (fun i hi hpre hn=>⟨_,⟨i,l[i],fnd_of (zaN hi) (by simpa using hn) (fun k y hk hy=>by
   obtain ⟨hk',rfl⟩:=zbP.1 hy
   exact hpre k hk),rfl⟩,hyes i hi (by simpa using hn)⟩) hno
 rcases H with ⟨h1,h2⟩ | ⟨_,y,⟨i,x,h2,rfl⟩,h3⟩
 · rw [h2,zqH.2 ((zsi (G:=fun x=>p x=false)).1 h1)]
 · rw [h3,h2]
def mkN (n:Nat) (f:Nat→α) (d:α) (i:Nat):List α:=(List.range n).map fun j=>if j < i then f j else d
theorem zvT (n:Nat) (f:Nat→α) (d:α) (i:Nat):(mkN n f d i).length=n:=by simp [mkN]
theorem mkN_get {n:Nat} {f:Nat→α} {d:α} {i:Nat} (h:i < n):(mkN n f d i)[i]?=some d:=by simp [mkN,h]
theorem mkN_zero (n:Nat) (f:Nat→α) (d:α):mkN n f d 0=List.replicate n d:=by unfold mkN; simp only [zve,if_false,List.map_const',aLiAs15]
theorem zxW {n:Nat} {f:Nat→α} {d:α} {i:Nat} {v:α} (hv:v=f i):(mkN n f d i).set i v=mkN n f d (i+1):=by
 subst hv; apply znk; intro j; by_cases hj:j < n
 · by_cases e:i=j
   · subst e; rw [List.getElem?_set_self (by rw [zvT]; exact hj)]; simp [mkN,hj]
   · rw [List.getElem?_set_ne e]; simp only [mkN,zeP,zqf hj,ze5]; congr 1; by_cases h:j < i
     · rw [if_pos h,iPQ]
     · rw [if_neg h,iNQ]
 · rw [zsa (by rw [zsy,zvT]; omega),zsa (by rw [zvT]; omega)]
theorem mkN_same {n:Nat} {f:Nat→α} {d:α} {i:Nat} (h:f i=d):mkN n f d i=mkN n f d (i+1):=by
 unfold mkN; apply zmu; intro j _; by_cases c:j < i
 · rw [if_pos c,iPQ]
 · by_cases e:j=i
   · subst e; rw [if_neg c,iPQ,h]
   · rw [if_neg c,iNQ]
theorem mkN_all (n:Nat) (f:Nat→α) (d:α):mkN n f d n=(List.range n).map f:=by unfold mkN; apply zmu; intro j hj; rw [if_pos (zk8.1 hj)]
theorem znD {γ:Type} (f:α→γ) (l:List α) (i:Nat) (a:α):(List.map f l).set i (f a)=List.map f (l.set i a):=zvf.symm
theorem zha {γ:Type} (f:α→γ) (l:List α) (a:α):List.map f l++[f a]=List.map f (l++[a]):=by simp
theorem map_rep {γ:Type} (f:α→γ) (n:Nat) (a:α):List.replicate n (f a)=List.map f (List.replicate n a):=by simp
theorem take_len (l:List α):List.take l.length l=l:=zqg
instance (p:GPart):Decidable (OkPart p):=by unfold OkPart; infer_instance
theorem zsI (p:GPart):cw zo4 [.agg (zaY p)] []=some (zaw (dec (OkPart p))):=by
 refine zzv p ?_; simp only [zj2,decide_eq_true_eq,beq_iff_eq]
 repeat' split
 all_goals first
  | (rw [zca (by unfold OkPart; omega)]; rfl)
  | (rw [show (p.Key == 0)=dec (OkPart p) from zqA (by simp only [beq_iff_eq]; unfold OkPart; omega)]; rfl)
  | (rw [show decide (p.Key < p.Options)=dec (OkPart p) from zqA (by simp only [decide_eq_true_eq]; unfold OkPart; omega)]; rfl)
theorem zyU (p:GPart) (l:List GPart):sumMax (p :: l)=p.Max+sumMax l:=by simp [sumMax]
theorem zxG {l:List GPart} (h:∀ p∈l,OkPart p):0≤sumMax l∧sumMax l≤40*l.length:=by
 induction l with
 | nil=>simp [sumMax]
 | cons p l ih=>have h1:=ih (fun q hq=>h q (by simp [hq])); have h2:=(h p (by simp)).1; rw [zyU,zjr]; omega
theorem zAo (l:List GPart) (h:∀ p∈l,OkPart p) (hl:l.length≤24):cw zpM [.sl 6 (List.map zaY l)] []=some (zbu (sumMax l)):=by
 refine zAz l ?_; have hb:=zxG h; refine zf7 l (fun i r=>∀ s:Int,0≤s→0≤sumMax r→s+sumMax r=sumMax l→zk3 l s i=some (zbu (sumMax l))) ?_ ?_ 0 (by omega) (by omega) (by omega)
 · intro s _ _ hs; refine zrN l _ _ ?_; simp (disch:=omega) [za2]; rw [← hs]; simp [sumMax]; rfl
 · intro i hi r hr ih s h0 h1 hs; refine zrN l _ _ ?_; have hm:=(h l[i] (zbs hi)).1; rw [zyU] at hs h1; have hr0:0≤sumMax r:=(zxG (l:=r) (fun q hq=>h q (by rw [← hr] at hq; exact znS hq))).1; simp (disch:=omega) [zaR,zax,w64_id]; exact ih _ (by omega) hr0 (by omega)
theorem zyf (p:zaP):cw zot [.agg (zaV p)] []=some (zaw (dec (zmp p))):=by
 refine zyj p ?_; by_cases hh:((0≤p.Code∧p.Code≤31)∧(0≤p.Variant∧p.Variant < 4)∧(1≤p.Parts.length∧p.Parts.length≤24))
 · simp (disch:=omega) only [zas,za2]
   have hg:=fun z h0=>zqw p.Parts.length (fun j hj=>OkPart p.Parts[j]) (fun i=>zjP p i) (fun y=>y=zaw false) z h0
    (fun i hi _ hn=>⟨_,rfl,zmN p _ (by simp (disch:=omega) [zaR,zax,zsI,zca hn]; rfl)⟩)
    (fun i hi y hy hk=>zmN p _ (by simp (disch:=omega) [zaR,zax,w64_id,zsI,zb6 hy,hk]))
   rcases hg (zaw (dec (zmp p))) (fun h=>zmN p _ (by
    have h':=zsi.1 h; simp (disch:=omega) [za2,zAo p.Parts h' (by omega)]; rw [show decide (sumMax p.Parts≤200)=dec (zmp p) from zqA (by simp only [decide_eq_true_eq]; unfold zmp; exact ⟨fun h=>⟨hh.1,hh.2.1,hh.2.2,h',h⟩,fun h=>h.2.2.2.2⟩)]
    rfl)) with ⟨h1,h2⟩ | ⟨⟨j,hj,h1⟩,y,rfl,h3⟩
   · exact h2
   · rw [zca (fun h=>h1 (h.2.2.2.1 _ (zbs hj)))]; exact h3
 · rw [zca (fun h=>hh ⟨h.1,h.2.1,h.2.2.1⟩)]; simp only [zj2,decide_eq_true_eq,zas]
   repeat' split
   all_goals first
    | rfl
    | omega
theorem zD1 {ks:List Int}:OkKeys 0 ks↔ks=[]:=by
 constructor
 · intro h
   cases ks with
   | nil=>rfl
   | cons k ks=>have:=h.1 k (by simp); omega
 · rintro rfl; exact ⟨by simp,fun j hj=>by simp at hj⟩
theorem okKeys_iff {o:Int} {ks:List Int}:(∀ j (hj:j < ks.length),(0≤ks[j]∧ks[j] < o)∧∀ h:0 < j,(ks[j - 1]'(by omega)) < ks[j])↔OkKeys o ks:=by unfold OkKeys; rw [← zuy,← zsi]; exact ⟨fun h=>⟨fun j hj=>(h j hj).1,fun j hj=>(h j hj).2⟩,fun h j hj=>⟨h.1 j hj,h.2 j hj⟩⟩
theorem zno (p:GPart) (ks:List Int) (hp:OkPart p) (hl:ks.length≤1000000):cw znz [.agg (zaY p),.sl 1 (List.map zaq ks)] []=some (zaw (dec (OkKeys p.Options ks))):=by
 refine zxp p ks ?_; by_cases hk:p.Kind=1
 · have ho:p.Options=0:=by unfold OkPart at hp; omega
   simp only [hk,beq_self_eq_true,zaM,zas]; rw [show ((ks.length:Int) == 0)=dec (OkKeys p.Options ks) from zqA (by rw [ho,zD1]; simp)]; rfl
 · simp only [show (p.Kind == 1)=false by simpa using hk,zaz]; rw [← znY okKeys_iff]; refine zo0 ks.length _ (fun i=>zhB p ks i) (fun b=>zaw b) ?_ ?_ ?_
   · exact zl7 p ks _ (by simp (disch:=omega) only [zas,za2]; rfl)
   · intro i hi hg; refine zl7 p ks _ ?_; by_cases h1:0≤ks[i]∧ks[i] < p.Options
     · have h0:0 < i:=by
        apply zzb
        rintro rfl
        exact hg ⟨h1,fun h=>absurd h (by omega)⟩
       have h2:¬ (ks[i - 1] < ks[i]):=fun h=>hg ⟨h1,fun _=>h⟩
       simp (disch:=omega) [zaR,za2,zax,w64_id,ziH h0]; rfl
     · by_cases h2:ks[i] < 0
       · simp (disch:=omega) [zaR,zax]; rfl
       · simp (disch:=omega) [zaR,za2,zax]; rfl
   · intro i hi y hg hk'; refine zl7 p ks _ ?_; by_cases h0:0 < i
     · have h2:=hg.2 h0; have h1:=hg.1; simp (disch:=omega) [zaR,za2,zax,w64_id,ziH h0,hk']
     · have h1:=hg.1; simp (disch:=omega) [zaR,za2,zax,w64_id,hk']
theorem zto (k:Int):cw zpS [I k] []=some (zaw (dec (0≤k∧k≤2))):=by
 refine zAG k ?_; simp only [zj2,beq_iff_eq]
 repeat' split
 all_goals first
  | (rw [zb6 (by omega)]; rfl)
  | (rw [zca (by omega)]; rfl)
theorem zDh {p:zaP} {s:zbM} (h1:s.Keys.length=p.Parts.length) (h2:s.Withdrawn.length=p.Parts.length) (hp:zmp p):(∀ j (hj:j < p.Parts.length),OkKeys p.Parts[j].Options (s.Keys[j]'(by omega))∧(0≤s.Withdrawn[j]'(by omega)∧s.Withdrawn[j]'(by omega)≤2))↔zi4 p s:=by
 unfold zi4; constructor
 · intro h; refine ⟨hp,h1,h2,fun j x ks k a b c=>?_⟩; obtain ⟨hj,rfl⟩:=zbP.1 a; obtain ⟨_,rfl⟩:=zbP.1 b; obtain ⟨_,rfl⟩:=zbP.1 c; exact h j hj
 · intro h j hj; exact h.2.2.2 j _ _ _ (zaN hj) (zaN (by omega)) (zaN (by omega))
theorem zk9 (p:zaP) (s:zbM) (hs:Short s):cw zle [.agg (zaV p),.agg (zcK s)] []=some (zaw (dec (zi4 p s))):=by
 refine zBq p s ?_; simp only [zyf,zar,zas]; by_cases hp:zmp p
 · by_cases h1:s.Keys.length=p.Parts.length
   · by_cases h2:s.Withdrawn.length=p.Parts.length
     · simp only [zb6 hp,h1,h2,zce,zaz,bne_self_eq_false]; have hpl:=hp.2.2.1; rw [← znY (zDh h1 h2 hp)]; refine zo0 p.Parts.length _ (fun i=>zlV p s i) (fun b=>zaw b) ?_ ?_ ?_
       · exact zpg p s _ (by simp (disch:=omega) only [zas,za2]; rfl)
       · intro i hi hg; have hi1:i < s.Keys.length:=by omega
         have hi2:i < s.Withdrawn.length:=by omega
         refine zpg p s _ ?_; have hx:=hp.2.2.2.1 _ (zbs hi); by_cases h3:OkKeys p.Parts[i].Options s.Keys[i]
         · have h4:¬ (0≤s.Withdrawn[i]∧s.Withdrawn[i]≤2):=fun h=>hg ⟨h3,h⟩
           simp (disch:=omega) [zaR,zax,zno _ _ hx (hs _ (zbs hi1)),zb6 h3,zto,zca h4]; rfl
         · simp (disch:=omega) [zaR,zax,zno _ _ hx (hs _ (zbs hi1)),zca h3]; rfl
       · intro i hi y hg hk'; have hi1:i < s.Keys.length:=by omega
         have hi2:i < s.Withdrawn.length:=by omega
         refine zpg p s _ ?_; have hx:=hp.2.2.2.1 _ (zbs hi); simp (disch:=omega) [zaR,zax,w64_id,zno _ _ hx (hs _ (zbs hi1)),zb6 hg.1,zto,zb6 hg.2,hk']
     · rw [zca (p:=zi4 p s) (fun h=>h2 h.2.2.1)]; simp only [zb6 hp,h1,zce,zaz,bne_self_eq_false,show ((s.Withdrawn.length:Int) != p.Parts.length)=true by simpa using (by omega:¬ ((s.Withdrawn.length:Int)=p.Parts.length)),zaM]; rfl
   · rw [zca (p:=zi4 p s) (fun h=>h1 h.2.1)]; simp only [zb6 hp,zce,zaz,show ((s.Keys.length:Int) != p.Parts.length)=true by simpa using (by omega:¬ ((s.Keys.length:Int)=p.Parts.length)),zaM]; rfl
 · rw [zca hp,zca (fun h=>hp h.1)]; rfl
theorem zg7 (n:Int):cw zlM [I n] []=some (zaw (dec (0≤n∧n≤31))):=by
 refine zzA n ?_; simp only [zj2,decide_eq_true_eq]; split
 · rw [show decide (n≤31)=dec (0≤n∧n≤31) from zqA (by simp only [decide_eq_true_eq]; omega)]; rfl
 · rw [zca (by omega)]; rfl
theorem ztp (n:Int):cw zcZ [I n] []=some (zaw (!dec (0≤n∧n≤31))):=
 ztS n (by rw [zg7,zar]; rfl)
theorem zBg (l:List Int) (hl:l.length≤1000000):cw zcm [.sl 1 (List.map zaq l),.fn zcZ []] []=some (zaw (!dec (∀ n∈l,0≤n∧n≤31))):=by
 refine zp8 l ?_
 have key:∃ r,cw zcL [.sl 1 (List.map zaq l),.fn zcZ []] []=some (zbu r)∧(0≤r↔¬ ∀ n∈l,0≤n∧n≤31):=by
  have H:=zqw l.length (fun j hj=>0≤l[j]∧l[j]≤31) (fun i=>zgi l i) (fun y=>∃ r:Int,0≤r∧y=zbu r) (zbu (-1)) ?_ ?_ ?_
  · rcases H with ⟨h1,h2⟩ | ⟨⟨j,hj,h1⟩,y,⟨r,h2,rfl⟩,h3⟩
    · refine ⟨-1,zmg l h2,?_⟩; have:=(zsi (G:=fun n=>0≤n∧n≤31)).1 h1; exact ⟨fun h=>by omega,fun h=>absurd this h⟩
    · exact ⟨r,zmg l h3,fun _ h=>h1 (h _ (zbs hj)),fun _=>h2⟩
  · intro h; exact zis l _ (by simp (disch:=omega) [za2] <;> rfl)
  · intro i hi _ hg; refine ⟨_,⟨(i:Int),by omega,rfl⟩,zis l _ ?_⟩; simp (disch:=omega) [zaR,zax,ztp,zca hg]; rfl
  · intro i hi y hg hk; refine zis l _ ?_; simp (disch:=omega) [zaR,zax,w64_id,ztp,zb6 hg,hk]
 obtain ⟨r,h1,h2⟩:=key; rw [h1,zbc]
 rw [show decide (0≤r)=!dec (∀ n∈l,0≤n∧n≤31) by
  by_cases hc:∀ n∈l,0≤n∧n≤31
  · rw [zb6 hc]; simp only [zce,decide_eq_false_iff_not]; exact fun h=>(h2.1 h) hc
  · rw [zca hc]; simp only [zdx,decide_eq_true_eq]; exact h2.2 hc]
 rfl
theorem zmc (m:za3) (hl:m.Papers.length≤1000000):cw zlN [.agg (za0 m)] []=some (zaw (dec (zlB m))):=by
 refine zvH m ?_; simp only [zj2,decide_eq_true_eq]
 repeat' split
 all_goals first
  | (rw [zca (by unfold zlB; omega)]; rfl)
  | (rw [zBg _ hl,zar,Bool.not_not,znY (p:=∀ n∈m.Papers,0≤n∧n≤31) (q:=zlB m) ⟨fun h=>⟨by omega,by omega,by omega,by omega,h⟩,fun h=>h.2.2.2.2⟩]; rfl)
theorem zmT (l:List Int) (hl:l.length≤1000000):cw zpP [.sl 1 (List.map zaq l)] []=some (zaw (dec (AscBy id l))):=by
 refine zAA l ?_; by_cases h1:1≤l.length
 · have h:=all_from 1 l.length h1 (fun j h1 hj=>l[j - 1] < l[j]) (fun i=>zk4 l i) (fun b=>zaw b) ?_ ?_ ?_
   · rw [show ((1:Nat):Int)=1 from rfl] at h; rw [h]; congr 2; rw [← zuy]; exact znY ⟨fun h i hi h0=>h i h0 hi,fun h j h1 hj=>h j hj h1⟩
   · exact zk7 _ _ (by simp (disch:=omega) [za2] <;> rfl)
   · intro i h0 hi hg; refine zk7 _ _ ?_; simp (disch:=omega) [zaR,zax,w64_id,ziH h0]; rfl
   · intro i h0 hi y hg hk; refine zk7 _ _ ?_; simp (disch:=omega) [zaR,za2,zax,w64_id,ziH h0,hk]
 · rw [zb6 (p:=AscBy id l) (fun j hj=>by omega)]; exact zk7 _ _ (by simp (disch:=omega) [za2] <;> rfl)
theorem zCs {l:List za3} (hl:l.length≤16):(∀ j (hj:j < l.length),(zlB l[j]∧AscBy id l[j].Papers)∧∀ h:0 < j,(l[j - 1]'(by omega)).ID < l[j].ID)↔zq1 l:=by unfold zq1; rw [← zuy,← zsi]; exact ⟨fun h=>⟨hl,fun j hj=>(h j hj).1,fun j hj=>(h j hj).2⟩,fun h j hj=>⟨h.2.1 j hj,h.2.2 j hj⟩⟩
theorem zBi (l:List za3) (hs:∀ m∈l,m.Papers.length≤1000000):∃ e,cw zqD [.sl 5 (List.map za0 l)] []=some (zbu e)∧(e=0↔zq1 l):=by
 by_cases hl:l.length≤16
 · have H:=all_err l.length (fun j hj=>(zlB l[j]∧AscBy id l[j].Papers)∧∀ h:0 < j,(l[j - 1]'(by omega)).ID < l[j].ID) (fun i=>zjD l i) (fun e=>zbu e) ?_ ?_ ?_
   · obtain ⟨e,h1,h2⟩:=H; exact ⟨e,zuJ l (by simp (disch:=omega) [za2,h1]),h2.trans (zCs hl)⟩
   · exact zjH _ _ (by simp (disch:=omega) [za2] <;> rfl)
   · intro i hi hg; have hp:=hs _ (zbs hi); by_cases h1:zlB l[i]
     · by_cases h2:AscBy id l[i].Papers
       · have h0:0 < i:=by
          apply zzb
          rintro rfl
          exact hg ⟨⟨h1,h2⟩,fun h=>absurd h (by omega)⟩
         have h3:¬ (l[i - 1].ID < l[i].ID):=fun h=>hg ⟨⟨h1,h2⟩,fun _=>h⟩
         refine ⟨43,by omega,zjH _ _ ?_⟩; simp (disch:=omega) [zaR,zax,w64_id,ziH h0,zmc _ hp,zb6 h1,zmT _ hp,zb6 h2]; rfl
       · refine ⟨43,by omega,zjH _ _ ?_⟩; simp (disch:=omega) [zaR,zax,zmc _ hp,zb6 h1,zmT _ hp,zca h2]; rfl
     · refine ⟨2,by omega,zjH _ _ ?_⟩; simp (disch:=omega) [zaR,zax,zmc _ hp,zca h1]; rfl
   · intro i hi y hg hk; have hp:=hs _ (zbs hi); obtain ⟨⟨h1,h2⟩,h3⟩:=hg; refine zjH _ _ ?_; by_cases h0:0 < i
     · have h4:=h3 h0; simp (disch:=omega) [zaR,za2,zax,w64_id,ziH h0,zmc _ hp,zb6 h1,zmT _ hp,zb6 h2,hk]
     · simp (disch:=omega) [zaR,za2,zax,w64_id,zmc _ hp,zb6 h1,zmT _ hp,zb6 h2,hk]
 · refine ⟨3,zuJ l ?_,by omega,fun h=>absurd h.1 hl⟩; simp (disch:=omega) [zaR]; rfl
theorem zCt {l:List zaX} (hl:l.length≤60):(∀ j (hj:j < l.length),zsr l[j]∧∀ h:0 < j,(l[j - 1]'(by omega)).Number < l[j].Number)↔zq2 l:=by unfold zq2; rw [← zuy,← zsi]; exact ⟨fun h=>⟨hl,fun j hj=>(h j hj).1,fun j hj=>(h j hj).2⟩,fun h j hj=>⟨h.2.1 j hj,h.2.2 j hj⟩⟩
theorem zuC (l:List zaX):∃ e,cw zlc [.sl 7 (List.map za1 l)] []=some (zbu e)∧(e=0↔zq2 l):=by
 by_cases hl:l.length≤60
 · have H:=all_err l.length (fun j hj=>zsr l[j]∧∀ h:0 < j,(l[j - 1]'(by omega)).Number < l[j].Number) (fun i=>zgl l i) (fun e=>zbu e) ?_ ?_ ?_
   · obtain ⟨e,h1,h2⟩:=H; exact ⟨e,zpr l (by simp (disch:=omega) [za2,h1]),h2.trans (zCt hl)⟩
   · exact zfl _ _ (by simp (disch:=omega) [za2] <;> rfl)
   · intro i hi hg; by_cases h1:zsr l[i]
     · have h0:0 < i:=by
        apply zzb
        rintro rfl
        exact hg ⟨h1,fun h=>absurd h (by omega)⟩
       have h3:¬ (l[i - 1].Number < l[i].Number):=fun h=>hg ⟨h1,fun _=>h⟩
       refine ⟨43,by omega,zfl _ _ ?_⟩; obtain ⟨a1,a2,a3,a4,a5,a6⟩:=h1; simp (disch:=omega) [zaR,za2,zax,w64_id,ziH h0,zg7,zb6 a1]; rw [← a5]; simp; rfl
     · by_cases a1:0≤l[i].Paper∧l[i].Paper≤31
       · by_cases a2:(0≤l[i].Candidate∧l[i].Candidate≤9999)∧(0≤l[i].Centre∧l[i].Centre≤99)∧(0≤l[i].Variant∧l[i].Variant≤31)
         · refine ⟨1,by omega,zfl _ _ ?_⟩; simp (disch:=omega) [zaR,za2,zax,w64_id,zg7,zb6 a1]; by_cases a3:l[i].Number=l[i].Paper*10000+l[i].Candidate
           · have a4:12 < (l[i].Pages.length:Int):=by apply Int.not_le.1; intro h; exact h1 ⟨a1,a2.1,a2.2.1,a2.2.2,a3,by omega⟩
             simp (disch:=omega) [a3,zaR]; rfl
           · simp [show (l[i].Number != l[i].Paper*10000+l[i].Candidate)=true by simpa using a3]; rfl
         · refine ⟨2,by omega,zfl _ _ ?_⟩; simp (disch:=omega) [zaR,zax,zg7,zb6 a1]; simp only [zj2,decide_eq_true_eq]
           repeat' split
           all_goals first
            | rfl
            | omega
       · refine ⟨2,by omega,zfl _ _ ?_⟩; simp (disch:=omega) [zaR,zax,zg7,zca a1]; rfl
   · intro i hi y hg hk; obtain ⟨h1,h3⟩:=hg; refine zfl _ _ ?_; obtain ⟨a1,a2,a3,a4,a5,a6⟩:=h1; by_cases h0:0 < i
     · have h4:=h3 h0; simp (disch:=omega) [zaR,za2,zax,w64_id,ziH h0,zg7,zb6 a1,← a5,hk]
     · simp (disch:=omega) [zaR,za2,zax,w64_id,zg7,zb6 a1,← a5,hk]
 · refine ⟨3,zpr l ?_,by omega,fun h=>absurd h.1 hl⟩; simp (disch:=omega) [zaR]; rfl
theorem c_isScore (n:Int):cw zk2 [I n] []=some (zaw (dec (0≤n∧n≤200))):=by
 refine zyp n ?_; simp only [zj2,decide_eq_true_eq]; split
 · rw [show decide (n≤200)=dec (0≤n∧n≤200) from zqA (by simp only [decide_eq_true_eq]; omega)]; rfl
 · rw [zca (by omega)]; rfl
theorem zpG (r:zbe) (h:OkMon r):cw zke [.agg (zb4 r)] []=some (zbu 0):=by obtain ⟨h1,h2,h3,h4⟩:=h; refine zAE r ?_; simp (disch:=omega) [za2,c_isScore,zb6 h1,zb6 h2]; rfl
theorem zAk (l:List Int) (n:Int) (hl:l.length≤1000000):cw zhn [.sl 1 (List.map zaq l),I n] []=some (zaw (dec (n∈l))):=by
 refine zrV l n ?_; have key:=zi6 l (fun x=>n == x) (fun i=>zhD l n i) (fun o=>zbu (match o with | some (i,_)=>(i:Int) | none=>-1)) ?_ ?_ ?_
 · rw [ztX l n key,zbc]
   cases hf:fnd (fun x=>n == x) 0 l with
   | none=>rw [zca (fun h=>by have:=zqH.1 hf n h; simp at this)]; rfl
   | some q =>
     obtain ⟨i,x⟩:=q; obtain ⟨h1,h2,_⟩:=fnd_at hf; have:n=x:=by simpa using h2
     subst this; rw [zb6 (zcs h1)]; show some (B (decide (0≤(i:Int))),[])=_; rw [show decide (0≤(i:Int))=true by simp]; rfl
 · exact zjJ _ _ _ (by simp (disch:=omega) [za2] <;> rfl)
 · intro i hi h; refine zjJ _ _ _ ?_; simp (disch:=omega) [zaR,zax,h]; rfl
 · intro i hi y h hk; refine zjJ _ _ _ ?_; simp (disch:=omega) [zaR,zax,w64_id,h,hk]
def accB (x:GPart) (ks:List Int) (v:Int):Bool:=if ks=[] then v == x.Key else dec (v∈ks)
theorem zw4 (x:GPart) (ks:List Int) (v:Int) (hl:ks.length≤1000000):cw zo9 [.agg (zaY x),.sl 1 (List.map zaq ks),I v] []=some (zaw (accB x ks v)):=by
 refine zzF x ks v ?_; unfold accB; by_cases h:ks=[]
 · rw [if_pos h,h]; rfl
 · rw [if_neg h]; have:((ks.length:Int) == 0)=false:=by simpa using h
   simp only [zas,this,zaz,zAk _ _ hl,zar]; rfl
def znp (p:zaP) (s:zbM) (a:List Int) (j:Nat):Int:=
 match p.Parts[j]?,s.Keys[j]?,a[j]? with
 | some x,some ks,some v=>if x.Kind=1 then -2 else if accB x ks v=true then x.Max else if v=-1 then -1 else 0
 | _,_,_=>0
def zuF (p:zaP) (s:zbM) (a:List Int):List Int:=(List.range p.Parts.length).map (znp p s a)
theorem kind2 {x:GPart} (h:OkPart x):x.Kind=1∨x.Kind=2:=by unfold OkPart at h; omega
theorem zAp (p:zaP) (s:zbM) (a:List Int) (hs:Short s):∃ r:List Int×Int,cw zmX [.agg (zaV p),.agg (zcK s),.sl 1 (List.map zaq a)] []=some (zhF r)∧(r.2=0↔zi4 p s∧OkAns p a)∧(r.2=0→r.1=zuF p s a):=by
 by_cases hp:zi4 p s
 case neg=>refine ⟨([],1),zpI p s a ?_,by simp [hp],by simp⟩; simp only [zk9 p s hs,zar,zca hp]; rfl
 obtain ⟨hP,hk,hw,hall⟩:=id hp; have hpl:=hP.2.2.1; by_cases ha:a.length=p.Parts.length
 case neg=>refine ⟨([],22),zpI p s a ?_,by simp [OkAns,ha],by simp⟩; simp only [zk9 p s hs,zar,zb6 hp,zce,zaz,zas,show ((a.length:Int) != p.Parts.length)=true by simpa using (by omega:¬ ((a.length:Int)=p.Parts.length)),zaM]; rfl
 have start:∀ y,zfG p s a 0=some y→cw zmX [.agg (zaV p),.agg (zcK s),.sl 1 (List.map zaq a)] []=some y:=by intro y hy; refine zpI p s a ?_; simp only [zk9 p s hs,zar,zb6 hp,zce,zaz,zas,ha,bne_self_eq_false,hy]
 have second:zfH p s a (List.map zaq (List.replicate p.Parts.length 0)) 0=some (zhF (zuF p s a,0)):=by
  rw [← mkN_zero p.Parts.length (znp p s a) 0]; have:=zf7 p.Parts (fun i r=>zfH p s a (List.map zaq (mkN p.Parts.length (znp p s a) 0 i.toNat)) i=some (zhF (zuF p s a,0))) ?_ ?_
  · exact this
  · refine zrO _ _ _ _ _ ?_; simp (disch:=omega) only [zas,za2,za9,mkN_all,zpj,aLiAs15,zax,zqg,zuF.eq_1]; rw [show List.take p.Parts.length (List.map zaq (List.map (znp p s a) (List.range p.Parts.length)))=List.map zaq (List.map (znp p s a) (List.range p.Parts.length)) from zeg (by simp)]; rfl
  · intro i hi r hr ih; have hi1:i < s.Keys.length:=by omega
    have hi2:i < a.length:=by omega
    have hkl:=hs _ (zbs hi1); refine zrO _ _ _ _ _ ?_
    have hc:znp p s a i=if p.Parts[i].Kind=1 then -2 else if accB p.Parts[i] s.Keys[i] a[i]=true then p.Parts[i].Max else if a[i]=-1 then -1 else 0:=by simp [znp,hi,hi1,hi2]
    have e1:((i:Int)+1).toNat=i+1:=by omega
    rw [e1] at ih; have hgi:(mkN p.Parts.length (znp p s a) 0 i)[i]?=some 0:=mkN_get hi; rcases kind2 (hP.2.2.2.1 _ (zbs hi)) with h1 | h1
    · rw [if_pos h1] at hc; simp (disch:=omega) [zaR,zax,h1,w64_id,hgi,znD,zxW hc.symm,-List.map_set,ih]
    · rw [iNQ] at hc
      cases hb:accB p.Parts[i] s.Keys[i] a[i] with
      | true=>rw [if_pos hb] at hc; simp (disch:=omega) [zaR,zax,h1,w64_id,hgi,znD,zxW hc.symm,-List.map_set,ih,zw4 _ _ _ hkl,hb]
      | false =>
        rw [if_neg (by rw [hb]; simp)] at hc; by_cases h2:a[i]=-1
        · rw [if_pos h2] at hc; simp (disch:=omega) [zaR,zax,h1,w64_id,hgi,znD,zxW hc.symm,-List.map_set,ih,zw4 _ _ _ hkl,hb,← h2]; simp (disch:=omega) [h2,znD,zxW hc.symm,-List.map_set,ih]
        · rw [if_neg h2] at hc; simp (disch:=omega) [zaR,zax,h1,w64_id,mkN_same hc,ih,zw4 _ _ _ hkl,hb,show (a[i] == -1)=false by simpa using h2]
 have hfst:∀ j (hj:j < p.Parts.length),(p.Parts[j].Kind≠1→-2≤a[j]'(by omega)∧a[j]'(by omega) < p.Parts[j].Options)↔(p.Parts[j].Kind=2→-2≤a[j]'(by omega)∧a[j]'(by omega) < p.Parts[j].Options):=by intro j hj; have:=kind2 (hP.2.2.2.1 _ (zbs hj)); omega
 have H:=zqw p.Parts.length (fun j hj=>p.Parts[j].Kind≠1→-2≤a[j]'(by omega)∧a[j]'(by omega) < p.Parts[j].Options) (fun i=>zfG p s a i) (fun y=>y=zhF ([],2)) (zhF (zuF p s a,0)) ?_ ?_ ?_
 · rcases H with ⟨h1,h2⟩ | ⟨⟨j,hj,h1⟩,y,rfl,h3⟩
   · refine ⟨_,start _ h2,⟨fun _=>⟨hp,ha,fun j x v q1 q2 q3=>?_⟩,fun _=>rfl⟩,fun _=>rfl⟩; obtain ⟨hj,rfl⟩:=zbP.1 q1; obtain ⟨_,rfl⟩:=zbP.1 q2; exact h1 j hj q3
   · refine ⟨_,start _ h3,⟨fun h=>by simp at h,fun h=>?_⟩,fun h=>by simp at h⟩; exact absurd (fun q3=>h.2.2 j _ _ (zaN hj) (zaN (by omega)) q3) h1
 · intro _; refine zoA _ _ _ _ ?_; rw [← map_rep] at second; simp (disch:=omega) only [zas,za2,zax,zcn,za9,second]
 · intro i hi _ hn; have hi2:i < a.length:=by omega
   refine ⟨_,rfl,zoA _ _ _ _ ?_⟩; rcases kind2 (hP.2.2.2.1 _ (zbs hi)) with h1 | h1
   · exact absurd (fun h=>absurd h1 h) hn
   · have h2:¬ (-2≤a[i]∧a[i] < p.Parts[i].Options):=fun h=>hn (fun _=>h)
     have hop:2≤p.Parts[i].Options:=by have:=(hP.2.2.2.1 _ (zbs hi)); unfold OkPart at this; omega
     have h3:a[i]≠-1:=fun h=>h2 (by omega)
     have h4:a[i]≠-2:=fun h=>h2 (by omega)
     by_cases h5:a[i] < 0
     · simp (disch:=omega) [zaR,zax,h1,show (a[i] != -1)=true by simpa using h3,show (a[i] != -2)=true by simpa using h4]; rfl
     · simp (disch:=omega) [zaR,za2,zax,h1,show (a[i] != -1)=true by simpa using h3,show (a[i] != -2)=true by simpa using h4]; rfl
 · intro i hi y hg hk'; have hi2:i < a.length:=by omega
   refine zoA _ _ _ _ ?_; rcases kind2 (hP.2.2.2.1 _ (zbs hi)) with h1 | h1
   · simp (disch:=omega) [zaR,zax,h1,w64_id,hk']
   · have h2:=hg (by omega); by_cases h3:a[i]=-1
     · simp (disch:=omega) [zaR,zax,h1,w64_id,h3,hk']
     · by_cases h4:a[i]=-2
       · simp (disch:=omega) [zaR,zax,h1,w64_id,h4,hk']
       · simp (disch:=omega) [zaR,za2,zax,h1,show (a[i] != -1)=true by simpa using h3,show (a[i] != -2)=true by simpa using h4,w64_id,hk']
def zDE:zaX:=⟨0,0,0,0,0,[],[]⟩
def ixR:Option (Nat×zaP)→Int×Bool
 | some (i,_)=>((i:Int),true)
 | none=>(0,false)
def scR:Option zaX→zaX×Bool
 | some x=>(x,true)
 | none=>(zDE,false)
theorem zvA (s:zaI) (n:Int) (hl:s.Scripts.length≤1000000):cw ziO [.agg (zaF s),I n] []=some (zoa (scR (zjG s.Scripts n))):=by
 refine zxi s n ?_; have key:=zi6 s.Scripts (fun x=>x.Number == n) (fun i=>zji s n i) (fun o=>zoa (scR (o.map (·.2)))) ?_ ?_ ?_
 · exact key
 · exact zl5 _ _ _ (by simp (disch:=omega) [za2] <;> rfl)
 · intro i hi h; refine zl5 _ _ _ ?_; simp (disch:=omega) [zaR,zax,h]; rfl
 · intro i hi y h hk; refine zl5 _ _ _ ?_; simp (disch:=omega) [zaR,zax,w64_id,h,hk]
theorem zw6 (s:zaI) (x:zaX) (hl:s.Papers.length≤1000000):cw zjb [.agg (zaF s),.agg (za1 x)] []=some (zml (ixR (zin s.Papers x))):=by
 refine zyn s x ?_; have key:=zi6 s.Papers (fun p=>p.Code == x.Paper && p.Variant == x.Variant) (fun i=>zia s x i) (fun o=>zml (ixR o)) ?_ ?_ ?_
 · exact key
 · exact zmP _ _ _ (by simp (disch:=omega) [za2] <;> rfl)
 · intro i hi h; refine zmP _ _ _ ?_; rw [zb5] at h; simp (disch:=omega) [zaR,zax,h.1,h.2]; rfl
 · intro i hi y h hk; refine zmP _ _ _ ?_
   cases h1:(s.Papers[i].Code == x.Paper) with
   | false=>simp (disch:=omega) [zaR,zax,w64_id,h1,hk]
   | true=>rw [h1,zkF] at h; simp (disch:=omega) [zaR,zax,w64_id,h1,h,hk]
theorem c_PaperOf (s:zaI) (n:Int) (h1:s.Scripts.length≤1000000) (h2:s.Papers.length≤1000000):cw zow [.agg (zaF s),I n] []=some (zml (ixR (zqL s n))):=by
 refine zym s n ?_; rw [zvA s n h1,zkG]; unfold zqL
 cases zjG s.Scripts n with
 | none=>rfl
 | some x=>simp only [scR,zce,zaz,zw6 s x h2,zpl,zba]; rfl
theorem zC1 (p:zaP) (m:List Int) (hl:p.Parts.length≤1000000) (h:zub p m):cw zlQ [.agg (zaV p),.sl 1 (List.map zaq m)] []=some (zaw true):=by
 obtain ⟨h1,h2⟩:=h; refine zvK p m ?_; simp only [zas,h1,bne_self_eq_false,zaz]; refine zf7 p.Parts (fun i r=>ziB p m i=some (zaw true)) ?_ ?_
 · exact zoR _ _ _ (by simp (disch:=omega) [za2] <;> rfl)
 · intro i hi r hr ih; have hi2:i < m.length:=by omega
   have:=h2 i _ _ (zaN hi) (zaN hi2); refine zoR _ _ _ ?_; simp (disch:=omega) [zaR,za2,zax,w64_id,ih]
theorem zko {ps:List zaP} {x:zaX} {k:Nat} {p:zaP} (hk:zin ps x=some (k,p)):ps[k]?=some p∧p.Code=x.Paper∧p.Variant=x.Variant:=by obtain ⟨h1,h2,_⟩:=fnd_at hk; simp only [zb5,beq_iff_eq] at h2; exact ⟨h1,h2⟩
theorem zxF {l:List zaX} (h:AscBy zaX.Number l) {x:zaX} (hx:x∈l):zjG l x.Number=some x:=by
 obtain ⟨i,hi,rfl⟩:=zlG.1 hx; unfold zjG
 rw [fnd_of (j:=i) (x:=l[i]) (zaN hi) (by simp) (fun k y hk hy=>by
  obtain ⟨hk',rfl⟩:=zbP.1 hy; have:=asc_lt h k i hi hk; simp only [beq_eq_false_iff_ne]
  omega)]
 rfl
theorem paperOf_at {s:zaI} {n:Int} {k:Nat} {p:zaP} (hk:zqL s n=some (k,p)):s.Papers[k]?=some p:=by
 unfold zqL at hk
 cases hx:zjG s.Scripts n with
 | none=>simp [hx] at hk
 | some x=>rw [hx] at hk; exact (zko hk).1
section
variable {s:zaI} (h:zfB s)
include h
theorem zfB.okPaper {k:Nat} {p:zaP} (hk:s.Papers[k]?=some p):zmp p:=by have hlt:=(zbP.1 hk).1; have:=h.len; exact (h.schemes k p _ hk (zaN (by omega))).1
theorem zCh:cw zld [.agg (zaF s)] []=some (zaw true):=by
 have hp:=h.papers; have hl:=h.len; refine zuL s ?_; simp (disch:=omega) only [zas,za2,hl,bne_self_eq_false,zaz]; refine zf7 s.Papers (fun i r=>zh7 s i=some (zaw true)) ?_ ?_
 · exact zon _ _ (by simp (disch:=omega) [za2] <;> rfl)
 · intro i hi r hr ih; have hi2:i < s.Schemes.length:=by omega
   have hv:=h.schemes i _ _ (zaN hi) (zaN hi2); refine zon _ _ ?_; simp (disch:=omega) [zaR,zax,w64_id,zk9 _ _ (h.short _ (zbs hi2)),zb6 hv,ih]
theorem zBj:cw zkK [.agg (zaF s)] []=some (zaw true):=by
 have hp:=h.papers; have hl:=h.len; have hsl:=h.scripts.1; refine ztV s ?_; refine zf7 s.Scripts (fun i r=>zhA s i=some (zaw true)) ?_ ?_
 · exact znP _ _ (by simp (disch:=omega) [za2] <;> rfl)
 · intro i hi r hr ih; obtain ⟨k,p,c,q1,q2,q3⟩:=h.script _ (zbs hi); have hpk:=(zko q1).1; obtain ⟨w,hw,hw1,hw2⟩:=zAp p c s.Scripts[i].Answers (h.short _ (zcs q2)); have hw0:w.2=0:=hw1.2 ⟨h.schemes k p c hpk q2,q3⟩; refine znP _ _ ?_; simp (disch:=omega) [zaR,zax,w64_id,zw6 s _ (by omega),q1,ixR,hpk,q2,hw,hw0,ih]
theorem zC2:cw zlR [.agg (zaF s)] []=some (zaw true):=by
 have hp:=h.papers; have hl:=h.seeds; have hsl:=h.scripts.1; refine zvL s ?_; simp (disch:=omega) only [zas,za2]; refine zf7 s.Seeds (fun i r=>ziC s i=some (zaw true)) ?_ ?_
 · exact zoS _ _ (by simp (disch:=omega) [za2] <;> rfl)
 · intro i hi r hr ih; obtain ⟨k,p,q1,q2⟩:=h.seed _ (zbs hi); have hpk:=paperOf_at q1; have hpl:=(h.okPaper hpk).2.2.1
   have rest:zhp s i s.Seeds[i]=some (zaw true):=by refine zr9 _ _ _ ?_; simp (disch:=omega) [zax,w64_id,c_PaperOf s _ (by omega) (by omega),q1,ixR,hpk,zC1 _ _ (by omega) q2,ih]
   refine zoS _ _ ?_; by_cases h0:0 < i
   · have:=zuy.2 h.asc i hi h0; simp (disch:=omega) [zaR,za2,zax,w64_id,ziH h0,rest]
   · simp (disch:=omega) [zaR,za2,zax,rest]
theorem ztn:cw zkb [.agg (zaF s)] []=some (zbu 0):=by obtain ⟨e1,h1,h2⟩:=zBi s.Markers h.short2; obtain ⟨e2,h3,h4⟩:=zuC s.Scripts; have g1:=h2.2 h.markers; have g2:=h4.2 h.scripts; subst g1 g2; refine zAB s ?_; simp only [h1,h3,zbc,zbc,zCh h,zBj h,zC2 h,zpG _ h.monitor,zar,zar,zar,zbc,bne_self_eq_false,zce,zaz]; rfl
end
def DOk (d:zak):Prop:=0≤d.At∧d.L.length≤600
abbrev mD (d:zak):Mem:=[(1000,⟨2,zam,[zaL d],true⟩)]
theorem tmod_lt {a n:Int} (hn:0 < n):-n < a.tmod n∧a.tmod n < n:=by have h1:=zzc a hn; refine ⟨?_,h1⟩; have h2:=zzc (-a) hn; rw [Int.neg_tmod] at h2; omega
theorem c_Light (t:List Int):cw zsQ [.sl 1 (List.map zaq t)] []=some (zaw (decide ((t.length:Int)≤600))):=
 zC6 t (by rw [zas]; rfl)
theorem c_Roll (t:List Int):cw ztY [.sl 1 (List.map zaq t)] []=some (zt4 ⟨t,0⟩):=zDM t rfl
theorem zfe (d:zak) (n:Int) (hd:DOk d) (hn:n≤4611686018427387904):∃ (r:Int) (d':zak),cw zbo [.loc 1000 2 0 0,I n] (mD d)=some (zlX (r,d'))∧0≤r∧(r < n∨r=0)∧DOk d':=by
 by_cases h1:(d.L.length:Int)≤d.At
 · refine ⟨0,d,zlJ d n ?_,by omega,.inr rfl,hd⟩; simp (disch:=omega) only [zas,zaR]; rfl
 by_cases h2:n < 1
 · refine ⟨0,d,zlJ d n ?_,by omega,.inr rfl,hd⟩; simp (disch:=omega) only [zas,zaR,za2]; rfl
 obtain ⟨ha,hl⟩:=hd; have hlt:d.At.toNat < d.L.length:=by omega
 have hb:=tmod_lt (a:=d.L[d.At.toNat]) (n:=n) (by omega); have hd':DOk ⟨d.L,d.At+1⟩:=⟨by show 0≤d.At+1; omega,hl⟩
 by_cases h3:(d.L[d.At.toNat]).tmod n < 0
 · refine ⟨(d.L[d.At.toNat]).tmod n+n,⟨d.L,d.At+1⟩,zlJ d n ?_,by omega,.inl (by omega),hd'⟩; simp (disch:=omega) [zaR,za2,zax,hlt,w64_id]; rfl
 · refine ⟨(d.L[d.At.toNat]).tmod n,⟨d.L,d.At+1⟩,zlJ d n ?_,by omega,.inl (by omega),hd'⟩; simp (disch:=omega) [zaR,za2,zax,hlt,w64_id]; rfl
theorem c_Bool (d:zak) (n:Int) (hd:DOk d) (hn:n≤4611686018427387904):∃ (r:Bool) (d':zak),cw zg9 [.loc 1000 2 0 0,I n] (mD d)=some (zpc (r,d'))∧DOk d':=by obtain ⟨r,d',h,_,_,hd'⟩:=zfe d n hd hn; exact ⟨_,d',zzw d n (by simp only [h,zbx]; rfl),hd'⟩
theorem c_Pick (d:zak) (l:List Int) (hd:DOk d) (hl:l≠[]) (hl2:l.length≤1000):∃ (r:Int) (d':zak),cw zil [.loc 1000 2 0 0,.sl 1 (List.map zaq l)] (mD d)=some (zlX (r,d'))∧r∈l∧DOk d':=by
 obtain ⟨r,d',h,h0,h1,hd'⟩:=zfe d l.length hd (by omega); have hpos:0 < l.length:=List.length_pos_iff.2 hl; have hlt:r.toNat < l.length:=by omega
 refine ⟨l[r.toNat],d',zzy d l ?_,zbs hlt,hd'⟩; simp (disch:=omega) only [zas,h,zbx,zax,zeK,zaN hlt,zba]; rfl
def DPaper (p:zaP):Prop:=p.Parts.length≤3∧1≤p.Parts.length∧(∀ x∈p.Parts,OkPart x∧x.Max≤6)∧∃ y,p.Parts[0]?=some y∧y.Kind=1∧3≤y.Max
theorem DPaper.ok {p:zaP} (h:DPaper p) (h1:0≤p.Code∧p.Code≤31) (h2:0≤p.Variant∧p.Variant < 4):zmp p:=by obtain ⟨a,b,c,_⟩:=h; refine ⟨h1,h2,by omega,fun x hx=>(c x hx).1,?_⟩; have:=(zxG (fun x hx=>(c x hx).1)).2; omega
theorem zxT (d:zak) (a b:Int) (hd:DOk d):∃ (p:zaP) (d':zak),cw zfE [.loc 1000 2 0 0,I a,I b] (mD d)=some (zox (p,d'))∧p.Code=a∧p.Variant=b∧DPaper p∧DOk d':=by
 obtain ⟨n0,d0,e0,a0,b0,hd0⟩:=zfe d 4 hd (by omega); obtain ⟨n1,d1,e1,a1,b1,hd1⟩:=zfe d0 3 hd0 (by omega); by_cases h1:0 < n1
 · obtain ⟨n2,d2,e2,a2,b2,hd2⟩:=zfe d1 2 hd1 (by omega); obtain ⟨n3,d3,e3,a3,b3,hd3⟩:=zfe d2 4 hd2 (by omega); obtain ⟨n4,d4,e4,a4,b4,hd4⟩:=zfe d3 2 hd3 (by omega)
   have start:∀ y,zkL a b (n0,d0) (n2,d2) (n3,d3)=some y→cw zfE [.loc 1000 2 0 0,I a,I b] (mD d)=some y:=by intro y hy; refine zrK d a b ?_; simp (disch:=omega) only [e0,e1,e2,e3,zbx,zaR,zax,zcn,hy]
   by_cases h4:0 < n4
   · obtain ⟨n5,d5,e5,a5,b5,hd5⟩:=zfe d4 4 hd4 (by omega); refine ⟨⟨a,b,[⟨1,3+n0,0,0,0,0⟩,⟨2,1+n2,0,0,4,n3⟩,⟨1,2+n5,0,0,0,0⟩]⟩,d5,start _ (zoQ _ _ _ _ _ ?_),rfl,rfl,⟨by simp,by simp,?_,_,rfl,rfl,by dsimp only; omega⟩,hd5⟩
     · simp (disch:=omega) only [e4,e5,zbx,zaR,zax,zcn,w64_id]; rfl
     · intro x hx; simp only [zbd,ze3,or_false] at hx; rcases hx with rfl | rfl | rfl <;> exact ⟨by unfold OkPart; dsimp only; omega,by dsimp only; omega⟩
   · refine ⟨⟨a,b,[⟨1,3+n0,0,0,0,0⟩,⟨2,1+n2,0,0,4,n3⟩]⟩,d4,start _ (zoQ _ _ _ _ _ ?_),rfl,rfl,⟨by simp,by simp,?_,_,rfl,rfl,by dsimp only; omega⟩,hd4⟩
     · simp (disch:=omega) only [e4,zbx,za2,zax,zcn,w64_id]; rfl
     · intro x hx; simp only [zbd,ze3,or_false] at hx; rcases hx with rfl | rfl <;> exact ⟨by unfold OkPart; dsimp only; omega,by dsimp only; omega⟩
 · obtain ⟨n4,d4,e4,a4,b4,hd4⟩:=zfe d1 2 hd1 (by omega)
   have start:∀ y,zjC a b (n0,d0) (n1,d1)=some y→cw zfE [.loc 1000 2 0 0,I a,I b] (mD d)=some y:=by intro y hy; refine zrK d a b ?_; simp (disch:=omega) only [e0,e1,zbx,za2,hy]
   by_cases h4:0 < n4
   · obtain ⟨n5,d5,e5,a5,b5,hd5⟩:=zfe d4 4 hd4 (by omega); refine ⟨⟨a,b,[⟨1,3+n0,0,0,0,0⟩,⟨1,2+n5,0,0,0,0⟩]⟩,d5,start _ (znM _ _ _ _ ?_),rfl,rfl,⟨by simp,by simp,?_,_,rfl,rfl,by dsimp only; omega⟩,hd5⟩
     · simp (disch:=omega) only [e4,e5,zbx,zaR,zax,zcn,w64_id]; rfl
     · intro x hx; simp only [zbd,ze3,or_false] at hx; rcases hx with rfl | rfl <;> exact ⟨by unfold OkPart; dsimp only; omega,by dsimp only; omega⟩
   · refine ⟨⟨a,b,[⟨1,3+n0,0,0,0,0⟩]⟩,d4,start _ (znM _ _ _ _ ?_),rfl,rfl,⟨by simp,by simp,?_,_,rfl,rfl,by dsimp only; omega⟩,hd4⟩
     · simp (disch:=omega) only [e4,zbx,za2,zax,zcn,w64_id]; rfl
     · intro x hx; simp only [zbd,ze3,or_false] at hx; subst hx; exact ⟨by unfold OkPart; dsimp only; omega,by dsimp only; omega⟩
theorem c_Scheme (d:zak) (p:zaP) (hd:DOk d) (hp:DPaper p) (hok:zmp p):∃ (c:zbM) (d':zak),cw zns [.loc 1000 2 0 0,.agg (zaV p)] (mD d)=some (znG (c,d'))∧zi4 p c∧Short c∧DOk d':=by
 have hl:=hp.1; have hl2:=hp.2.1; obtain ⟨b,d0,e0,hd0⟩:=c_Bool d 6 hd (by omega)
 have good:∀ W:List Int,W.length=p.Parts.length→(∀ k∈W,0≤k∧k≤2)→zi4 p ⟨List.replicate p.Parts.length [],W⟩∧Short ⟨List.replicate p.Parts.length [],W⟩:=by
  intro W hW hk; refine ⟨⟨hok,by simp,hW,fun j x ks k q1 q2 q3=>⟨?_,hk k (zcs q3)⟩⟩,?_⟩
  · have:=zcs q2; rw [zvg] at this; rw [this.2]; exact ⟨by simp,fun j hj=>by simp at hj⟩
  · intro ks hks; rw [zvg] at hks; rw [hks.2]; simp
 cases b with
 | true =>
   obtain ⟨n1,d1,e1,a1,b1,hd1⟩:=zfe d0 p.Parts.length hd0 (by omega); obtain ⟨n2,d2,e2,a2,b2,hd2⟩:=zfe d1 2 hd1 (by omega); have hlt:n1.toNat < p.Parts.length:=by omega
   obtain ⟨g1,g2⟩:=good ((List.replicate p.Parts.length 0).set n1.toNat (1+n2)) (by simp) (by
    intro k hk; rcases aLiAs54 hk with h | h
    · rw [zvg] at h; omega
    · omega)
   refine ⟨_,d2,zrf d p ?_,g1,g2,hd2⟩; have hlt':n1.toNat < (List.replicate p.Parts.length (0:Int)).length:=by simpa using hlt
   simp (disch:=omega) only [zas,zax,zcn,e0,e1,e2,zdr,zbx,zaM,za9,zpj,zcA,map_rep zaq,zeK,zaN hlt',zba]; refine zth _ _ _ _ _ ?_; simp (disch:=omega) only [zas,zax,zcn,za9,zpj,zcA,zsy,zcx,w64_id]; rw [show List.take p.Parts.length (List.replicate p.Parts.length [AV.sl 1 []])=List.replicate p.Parts.length [AV.sl 1 []] from zeg (by simp),zeg (Nat.le_of_eq (by simp only [zsy,zpj]))]; rw [show List.replicate p.Parts.length [AV.sl 1 []]=List.map zeN (List.replicate p.Parts.length []) by simp [zeN],show List.replicate p.Parts.length [I 0]=List.map zaq (List.replicate p.Parts.length 0) by simp [zaq],show [I (1+n2)]=zaq (1+n2) from rfl,znD]; rfl
 | false =>
   obtain ⟨g1,g2⟩:=good (List.replicate p.Parts.length 0) (by simp) (by
    intro k hk
    rw [zvg] at hk; omega)
   refine ⟨_,d0,zrf d p ?_,g1,g2,hd0⟩; simp (disch:=omega) only [zas,zax,zcn,e0,zdr,zaz,za9]; refine zr5 _ _ ?_; simp (disch:=omega) only [zas,zax,zcn,za9,zpj,zcA,zcx]; rw [show List.take p.Parts.length (List.replicate p.Parts.length [AV.sl 1 []])=List.replicate p.Parts.length [AV.sl 1 []] from zeg (by simp),zeg (Nat.le_of_eq (by simp only [zsy,zpj]))]; rw [show List.replicate p.Parts.length [AV.sl 1 []]=List.map zeN (List.replicate p.Parts.length []) by simp [zeN],show List.replicate p.Parts.length [I 0]=List.map zaq (List.replicate p.Parts.length 0) by simp [zaq]]; rfl
def znR (ps:List zaP):Prop:=1≤ps.length∧ps.length≤3∧(∀ p∈ps,DPaper p∧(0≤p.Code∧p.Code≤1)∧(0≤p.Variant∧p.Variant≤1))∧∀ p∈ps,∀ q∈ps,p.Code=q.Code→p.Variant=q.Variant→p=q
def ztl (ps:List zaP) (cs:List zbM):Prop:=∀ (j:Nat) (p:zaP) (c:zbM),ps[j]?=some p→cs[j]?=some c→zi4 p c∧Short c
theorem c_Papers (d:zak) (hd:DOk d):∃ (ps:List zaP) (cs:List zbM) (d':zak),cw ziN [.loc 1000 2 0 0] (mD d)=some (ziQ ((ps,cs),d'))∧znR ps∧cs.length=ps.length∧ztl ps cs∧DOk d':=by
 have loop:∀ (ps:List zaP),znR ps→∀ (d:zak),DOk d→∃ (cs:List zbM) (d':zak),zeE (List.map zaV ps) (List.map zcK []) d 0=some (ziQ ((ps,cs),d'))∧cs.length=ps.length∧ztl ps cs∧DOk d':=by
  intro ps hps d hd; have hpl:=hps.2.1; refine zf7 ps (fun i r=>∀ (cs:List zbM) (d:zak),(cs.length:Int)=i→ztl ps cs→DOk d→∃ (cs':List zbM) (d':zak),zeE (List.map zaV ps) (List.map zcK cs) d i=some (ziQ ((ps,cs'),d'))∧cs'.length=ps.length∧ztl ps cs'∧DOk d') ?_ ?_ [] d (by simp) (by intro j p c _ h; simp at h) hd
  · intro cs d hcs hok hd; refine ⟨cs,d,zp1 _ _ _ _ ?_,by omega,hok,hd⟩; simp (disch:=omega) only [zas,za2,zcA,zcx,zcn]; rw [zeg (by simp),zeg (by simp)]; rfl
  · intro i hi r hr ih cs d hcs hok hd; obtain ⟨g1,g2,g3⟩:=hps.2.2.1 _ (zbs hi); obtain ⟨c,d1,e1,o1,o2,hd1⟩:=c_Scheme d ps[i] hd g1 (g1.ok (by omega) (by omega))
    obtain ⟨cs',d',e2,o3,o4,hd'⟩:=ih (cs++[c]) d1 (by simp; omega) (by
     intro j p c' hp hc; by_cases hj:j < cs.length
     · rw [zqh hj] at hc; exact hok j p c' hp hc
     · have hjl:=(zbP.1 hc).1; simp at hjl; have hji:j=cs.length:=by omega
       subst hji; simp at hc; subst hc; have:i=cs.length:=by omega
       subst this; rw [zaN hi] at hp; injection hp with hp; subst hp
       exact ⟨o1,o2⟩) hd1
    refine ⟨cs',d',zp1 _ _ _ _ ?_,o3,o4,hd'⟩; simp (disch:=omega) only [zas,zaR,zax,zcn,zcA,za9,ziM,zaN hi,zba,e1,ztM,w64_id,zha,e2]
 obtain ⟨p0,d0,e0,a0,b0,g0,hd0⟩:=zxT d 0 0 hd; obtain ⟨b,d1,e1,hd1⟩:=c_Bool d0 2 hd0 (by omega)
 cases b with
 | true =>
   obtain ⟨p2,d2,e2,a2,b2,g2,hd2⟩:=zxT d1 0 1 hd1; obtain ⟨b',d3,e3,hd3⟩:=c_Bool d2 2 hd2 (by omega)
   have start:∀ y,zjW (p0,d0) (p2,d2)=some y→cw ziN [.loc 1000 2 0 0] (mD d)=some y:=by intro y hy; refine zre d ?_; simp (disch:=omega) only [e0,e1,e2,ziZ,zdr,zaM,zax,zcn,hy]
   cases b' with
   | true =>
     obtain ⟨p4,d4,e4,a4,b4,g4,hd4⟩:=zxT d3 1 0 hd3
     obtain ⟨cs,d',e5,o3,o4,hd'⟩:=loop [p0,p2,p4] (by
      refine ⟨by simp,by simp,?_,?_⟩ <;> simp only [zbd,ze3,or_false]
      · rintro p (rfl | rfl | rfl)
        · exact ⟨g0,by omega,by omega⟩
        · exact ⟨g2,by omega,by omega⟩
        · exact ⟨g4,by omega,by omega⟩
      · rintro p (rfl | rfl | rfl) q (rfl | rfl | rfl) h1 h2 <;> first | rfl | omega) d4 hd4
     refine ⟨[p0,p2,p4],cs,d',start _ (zom _ _ ?_),?_,o3,o4,hd'⟩
     · simp (disch:=omega) only [e3,e4,ziZ,zdr,zaM,zax,zcn]; exact e5
     · refine ⟨by simp,by simp,?_,?_⟩ <;> simp only [zbd,ze3,or_false]
       · rintro p (rfl | rfl | rfl)
         · exact ⟨g0,by omega,by omega⟩
         · exact ⟨g2,by omega,by omega⟩
         · exact ⟨g4,by omega,by omega⟩
       · rintro p (rfl | rfl | rfl) q (rfl | rfl | rfl) h1 h2 <;> first | rfl | omega
   | false =>
     have hP:znR [p0,p2]:=by
      refine ⟨by simp,by simp,?_,?_⟩ <;> simp only [zbd,ze3,or_false]
      · rintro p (rfl | rfl)
        · exact ⟨g0,by omega,by omega⟩
        · exact ⟨g2,by omega,by omega⟩
      · rintro p (rfl | rfl) q (rfl | rfl) h1 h2 <;> first | rfl | omega
     obtain ⟨cs,d',e5,o3,o4,hd'⟩:=loop [p0,p2] hP d3 hd3; refine ⟨[p0,p2],cs,d',start _ (zom _ _ ?_),hP,o3,o4,hd'⟩; simp (disch:=omega) only [e3,zdr,zaz]; exact e5
 | false =>
   obtain ⟨b',d3,e3,hd3⟩:=c_Bool d1 2 hd1 (by omega)
   have start:∀ y,zjh (p0,d0) (false,d1)=some y→cw ziN [.loc 1000 2 0 0] (mD d)=some y:=by intro y hy; refine zre d ?_; simp (disch:=omega) only [e0,e1,ziZ,zdr,zaz,zax,zcn,hy]
   cases b' with
   | true =>
     obtain ⟨p4,d4,e4,a4,b4,g4,hd4⟩:=zxT d3 1 0 hd3
     have hP:znR [p0,p4]:=by
      refine ⟨by simp,by simp,?_,?_⟩ <;> simp only [zbd,ze3,or_false]
      · rintro p (rfl | rfl)
        · exact ⟨g0,by omega,by omega⟩
        · exact ⟨g4,by omega,by omega⟩
      · rintro p (rfl | rfl) q (rfl | rfl) h1 h2 <;> first | rfl | omega
     obtain ⟨cs,d',e5,o3,o4,hd'⟩:=loop [p0,p4] hP d4 hd4; refine ⟨[p0,p4],cs,d',start _ (zm8 _ _ ?_),hP,o3,o4,hd'⟩; simp (disch:=omega) only [e3,e4,ziZ,zdr,zaM,zax,zcn]; exact e5
   | false =>
     have hP:znR [p0]:=by
      refine ⟨by simp,by simp,?_,?_⟩ <;> simp only [zbd,ze3,or_false]
      · rintro p rfl
        exact ⟨g0,by omega,by omega⟩
      · rintro p rfl q rfl h1 h2; rfl
     obtain ⟨cs,d',e5,o3,o4,hd'⟩:=loop [p0] hP d3 hd3; refine ⟨[p0],cs,d',start _ (zm8 _ _ ?_),hP,o3,o4,hd'⟩; simp (disch:=omega) only [e3,zdr,zaz]; exact e5
def DMarkers (l:List za3):Prop:=2≤l.length∧l.length≤5∧zq1 l∧(∀ m∈l,m.Papers.length≤2)∧∀ m∈l,m.ID≤15
theorem c_Markers (d:zak) (hd:DOk d):∃ (l:List za3) (d':zak),cw zmI [.loc 1000 2 0 0] (mD d)=some (zjQ (l,d'))∧DMarkers l∧DOk d':=by
 have asc1:∀ {l:List za3} {m:za3},AscBy za3.ID l→(∀ x∈l,x.ID < m.ID)→AscBy za3.ID (l++[m]):=by
  intro l m h1 h2 j hj; simp at hj; by_cases h:j+1 < l.length
  · rw [zqi (by omega),zqi h]; exact h1 j h
  · have hj':j+1=l.length:=by omega
    rw [zqi (by omega),List.getElem_append_right (by omega)]; simpa using h2 _ (zbs (by omega))
 have loop:∀ (k:Nat) (l:List za3) (d:zak) (id:Int),DOk d→0≤id→id≤3*l.length→l.length+k≤5→(∀ m∈l,zlB m∧AscBy _root_.id m.Papers)→AscBy za3.ID l→(∀ m∈l,m.ID≤id)→(∀ m∈l,m.Papers.length≤2)→∃ (l':List za3) (d':zak),zi1 (List.map za0 l) d id k=some (zjQ (l',d'))∧(l'.length=l.length+k∧(∀ m∈l',zlB m∧AscBy _root_.id m.Papers)∧AscBy za3.ID l'∧(∀ m∈l',m.Papers.length≤2)∧∀ m∈l',m.ID≤15)∧DOk d':=by
  intro k
  induction k with
  | zero=>intro l d id hd h0 h1 h2 h3 h4 h5 h6; refine ⟨l,d,zpy _ _ _ _ ?_,⟨rfl,h3,h4,h6,fun m hm=>by have:=h5 m hm; omega⟩,hd⟩; simp (disch:=omega) only [za2,zcn]; rfl
  | succ k ih =>
    intro l d id hd h0 h1 h2 h3 h4 h5 h6; obtain ⟨n0,d0,e0,a0,b0,hd0⟩:=zfe d 3 hd (by omega); obtain ⟨n1,d1,e1,a1,hd1⟩:=c_Pick d0 [-1,-1,1,2,3] hd0 (by simp) (by simp); obtain ⟨n2,d2,e2,a2,hd2⟩:=c_Pick d1 [1,1,1,2,3] hd1 (by simp) (by simp); obtain ⟨n3,d3,e3,a3,hd3⟩:=c_Pick d2 [3,2,6,0,1] hd2 (by simp) (by simp); obtain ⟨n4,d4,e4,a4,b4,hd4⟩:=zfe d3 4 hd3 (by omega); have hlt:n4.toNat < ([[0,1],[0],[1],[0,1]]:List (List Int)).length:=by simp; omega
    have hpapers:∀ q∈([[0,1],[0],[1],[0,1]]:List (List Int)),(∀ n∈q,0≤n∧n≤31)∧AscBy _root_.id q∧q.length≤2:=by
     intro q hq; simp only [zbd,ze3,or_false] at hq
     have A:AscBy _root_.id ([0,1]:List Int):=fun j hj=>by
      simp at hj; have:j=0:=by omega
      subst this; show (0:Int) < 1; omega
     rcases hq with rfl | rfl | rfl | rfl
     · exact ⟨by simp,A,by simp⟩
     · exact ⟨by simp,fun j hj=>by simp at hj,by simp⟩
     · exact ⟨by simp,fun j hj=>by simp at hj,by simp⟩
     · exact ⟨by simp,A,by simp⟩
    obtain ⟨q1,q2,q3⟩:=hpapers _ (zbs hlt); simp only [zbd,ze3,or_false] at a1 a2 a3
    obtain ⟨l',d',e5,o1,hd'⟩:=ih (l++[⟨id+(1+n0),n1,n2,n3,([[0,1],[0],[1],[0,1]]:List (List Int))[n4.toNat]⟩]) d4 (id+(1+n0)) hd4 (by omega) (by simp; omega) (by simp; omega)
     (by
      intro m hm; rcases zb9.1 hm with h | h
      · exact h3 m h
      · simp only [zdm] at h; subst h
        refine ⟨⟨?_,?_,?_,?_,q1⟩,q2⟩ <;> dsimp only <;> omega)
     (asc1 h4 (fun x hx=>by have:=h5 x hx; dsimp only; omega))
     (by
      intro m hm; rcases zb9.1 hm with h | h
      · have:=h5 m h; omega
      · simp only [zdm] at h; subst h
        dsimp only; omega)
     (by
      intro m hm; rcases zb9.1 hm with h | h
      · exact h6 m h
      · simp only [zdm] at h; subst h
        exact q3)
    refine ⟨l',d',zpy _ _ _ _ ?_,⟨by have:=o1.1; simp at this; omega,o1.2⟩,hd'⟩; have e6:w64 (((k+1:Nat):Int) - 1)=(k:Int):=by rw [w6Q]; omega
    simp (disch:=omega) only [zaR,e0,e1,e2,e3,e4,zbx,zbx,zax,zcn,zas,w64_id,e6]; rw [show ([zeN [0,1],zeN [0],zeN [1],zeN [0,1]]:List (List AV))=List.map zeN [[0,1],[0],[1],[0,1]] from rfl,zCn,zaN hlt,zba]; simp (disch:=omega) only [zax,zcn,zas,w64_id,zha,e5]
 obtain ⟨n,d0,e0,a0,b0,hd0⟩:=zfe d 4 hd (by omega); obtain ⟨l',d',e1,⟨o1,o2,o3,o4,o5⟩,hd'⟩:=loop (2+n).toNat [] d0 0 hd0 (by omega) (by simp) (by simp; omega) (by simp) (fun j hj=>by simp at hj) (by simp) (by simp); simp at o1; refine ⟨l',d',zwB d ?_,⟨by omega,by omega,⟨by omega,o2,o3⟩,o4,o5⟩,hd'⟩; simp only [e0,zbx]; rw [w6Q]; rw [aLiAs44 (by omega)] at e1; exact e1
theorem asc_snoc {α:Type} {f:α→Int} {l:List α} {m:α} (h1:AscBy f l) (h2:∀ x∈l,f x < f m):AscBy f (l++[m]):=by
 intro j hj; simp at hj; by_cases h:j+1 < l.length
 · rw [zqi (by omega),zqi h]; exact h1 j h
 · have hj':j+1=l.length:=by omega
   rw [zqi (by omega),List.getElem_append_right (by omega)]; simpa using h2 _ (zbs (by omega))
def zoZ (n:Int) (p:zaP) (x:zaX):Prop:=
 x.Paper=p.Code∧x.Variant=p.Variant∧x.Number=p.Code*10000+x.Candidate∧(1≤x.Candidate∧x.Candidate≤n)∧(1≤x.Centre∧x.Centre≤3)∧x.Pages.length=2∧(∀ y∈x.Pages,0≤y∧y≤1000000)∧OkAns p x.Answers
theorem c_Script (d:zak) (p:zaP) (c n:Int) (hd:DOk d) (hp:DPaper p) (h1:0≤p.Code∧p.Code≤31) (hc:1≤c∧c≤n) (hn:n≤9):∃ (x:zaX) (d':zak),cw znt [.loc 1000 2 0 0,.agg (zaV p),I c] (mD d)=some (zkq (x,d'))∧zoZ n p x∧x.Candidate=c∧DOk d':=by
 have hl:=hp.1; obtain ⟨n0,d0,e0,a0,b0,hd0⟩:=zfe d 3 hd (by omega); obtain ⟨n1,d1,e1,a1,b1,hd1⟩:=zfe d0 3 hd0 (by omega); have loop:=zf7 p.Parts (fun i r=>∀ (a:List Int) (d2:zak),(a.length:Int)=i→DOk d2→(∀ (j:Nat) (x:GPart) (v:Int),p.Parts[j]?=some x→a[j]?=some v→x.Kind≠1→-2≤v∧v < x.Options)→∃ (x:zaX) (d':zak),zhz d p c (n0,d0) (n1,d1) (List.map zaq a) d2 i=some (zkq (x,d'))∧zoZ n p x∧x.Candidate=c∧DOk d') ?_ ?_ [] d1 (by simp) hd1 (by intro j x v _ h; simp at h)
 · obtain ⟨x,d',e2,h⟩:=loop; refine ⟨x,d',zxf d p c ?_,h⟩; simp only [e0,e1,zbx]; exact e2
 · intro a d2 ha hd2 hok; refine ⟨⟨p.Code*10000+c,p.Code,c,1+n0,p.Variant,[100*c+p.Code,n1],a⟩,d2,zl4 _ _ _ _ _ _ _ _ ?_,?_,rfl,hd2⟩
   · simp (disch:=omega) only [zas,za2,zcA,zcx,zcn,w64_id]; rw [zeg (by simp),zeg (by simp)]; rfl
   · refine ⟨rfl,rfl,rfl,hc,by dsimp only; omega,rfl,?_,by dsimp only; omega,hok⟩; intro y hy; simp only [zbd,ze3,or_false] at hy; omega
 · intro i hi r hr ih a d2 ha hd2 hok; obtain ⟨hx,_⟩:=hp.2.2.1 _ (zbs hi)
   have snoc:∀ v:Int,(p.Parts[i].Kind≠1→-2≤v∧v < p.Parts[i].Options)→∀ (j:Nat) (x:GPart) (w:Int),p.Parts[j]?=some x→(a++[v])[j]?=some w→x.Kind≠1→-2≤w∧w < x.Options:=by
    intro v hv j x w hj hw; by_cases hja:j < a.length
    · rw [zqh hja] at hw; exact hok j x w hj hw
    · have:=(zbP.1 hw).1; simp at this; have hji:j=a.length:=by omega
      subst hji; simp at hw; subst hw; have:i=a.length:=by omega
      subst this; rw [zaN hi] at hj; injection hj with hj; subst hj; exact hv
   rcases kind2 hx with hk | hk
   · obtain ⟨x,d',e2,h⟩:=ih (a++[-1]) d2 (by simp; omega) hd2 (snoc _ (fun h=>absurd hk h)); refine ⟨x,d',zl4 _ _ _ _ _ _ _ _ ?_,h⟩; simp (disch:=omega) only [zas,zaR,zax,zcn,za9,ziy,zaN hi,zba,show (p.Parts[i].Kind == 2)=false by rw [hk]; rfl,zaz,w64_id,zha zaq,e2]
   · obtain ⟨v,d3,e3,hv,hd3⟩:=c_Pick d2 [p.Parts[i].Key,0,1,-1,-2] hd2 (by simp) (by simp)
     have hv':-2≤v∧v < p.Parts[i].Options:=by unfold OkPart at hx; simp only [zbd,ze3,or_false] at hv; omega
     obtain ⟨x,d',e2,h⟩:=ih (a++[v]) d3 (by simp; omega) hd3 (snoc _ (fun _=>hv')); refine ⟨x,d',zl4 _ _ _ _ _ _ _ _ ?_,h⟩; simp (disch:=omega) only [zas,zaR,zax,zcn,za9,ziy,zaN hi,zba,show (p.Parts[i].Kind == 2)=true by rw [hk]; rfl,zaM,e3,zbx,w64_id,zha zaq,e2]
def zu7 (n:Int) (ps:List zaP) (l:List zaX):Prop:=(∀ x∈l,∃ p∈ps,zoZ n p x)∧AscBy zaX.Number l∧(l.length:Int)≤2*n
theorem c_Scripts (d:zak) (ps:List zaP) (n:Int) (hd:DOk d) (hps:znR ps) (hn:0≤n∧n≤9):∃ (l:List zaX) (d':zak),cw zmK [.loc 1000 2 0 0,.sl 3 (List.map zaV ps),I n] (mD d)=some (zjR (l,d'))∧zu7 n ps l∧DOk d':=by
 have hpl:=hps.2.1
 let Inv:Int→List zaX→Prop:=fun code l=>(∀ x∈l,(∃ p∈ps,zoZ n p x)∧x.Number < code*10000)∧AscBy zaX.Number l∧(l.length:Int)≤code*n
 let Res:Option (AV×Mem)→Prop:=fun o=>∃ (l:List zaX) (d':zak),o=some (zjR (l,d'))∧zu7 n ps l∧DOk d'
 have stage2:∀ (out:List zaX) (d:zak),Inv 2 out→DOk d→Res (ze8 ps n (List.map za1 out) d 2):=by intro out d hi hd; refine ⟨out,d,zpz _ _ _ _ _ ?_,⟨fun x hx=>(hi.1 x hx).1,hi.2.1,hi.2.2⟩,hd⟩; simp (disch:=omega) only [za2,zcn]; rfl
 have step:∀ (code:Int),0≤code→code≤1→(∀ (out:List zaX) (d:zak),Inv (code+1) out→DOk d→Res (ze8 ps n (List.map za1 out) d (code+1)))→∀ (out:List zaX) (d:zak),Inv code out→DOk d→Res (ze8 ps n (List.map za1 out) d code):=by
  intro code hc0 hc1 next out d hi hd
  have third:∀ (l:List zaP),(∀ p∈l,p∈ps∧p.Code=code)→l.length≤3→∀ (m:Nat) (c:Int) (out:List zaX) (d:zak),c+m=n+1→1≤c→(∀ x∈out,(∃ p∈ps,zoZ n p x)∧x.Number < code*10000+c)→AscBy zaX.Number out→(out.length:Int)≤code*n+(c - 1)→DOk d→Res (zhh ps n code (List.map zaV l) (List.map za1 out) d c):=by
   intro l hl hll m
   induction m with
   | zero =>
     intro c out d hc h1 g1 g2 g3 hd; obtain ⟨l',d',e1,h⟩:=next out d ⟨fun x hx=>⟨(g1 x hx).1,by have:=(g1 x hx).2; rw [Int.add_mul]; omega⟩,g2,by rw [Int.add_mul]; omega⟩ hd
     refine ⟨l',d',zi3 _ _ _ _ _ _ _ ?_,h⟩; simp (disch:=omega) only [za2,w64_id,e1]
   | succ m ih =>
     intro c out d hc h1 g1 g2 g3 hd; have hcn:code*n≤9:=by rcases (by omega:code=0∨code=1) with h | h <;> rw [h] <;> omega
     have hol:out.length≤20:=by omega
     by_cases hlz:0 < l.length
     · obtain ⟨n0,d0,e0,a0,b0,hd0⟩:=zfe d 5 hd (by omega); by_cases h0:0 < n0
       · obtain ⟨n1,d1,e1,a1,b1,hd1⟩:=zfe d0 l.length hd0 (by omega); have hlt:n1.toNat < l.length:=by omega
         obtain ⟨hp1,hp2⟩:=hl _ (zbs hlt); obtain ⟨q1,q2,q3⟩:=hps.2.2.1 _ hp1; obtain ⟨x,d2,e2,hx,hxc,hd2⟩:=c_Script d1 l[n1.toNat] c n hd1 q1 (by omega) (by omega) hn.2; have hxn:=hx.2.2.1
         obtain ⟨l',d',e3,h⟩:=ih (c+1) (out++[x]) d2 (by omega) (by omega)
          (by
           intro y hy; rcases zb9.1 hy with hy | hy
           · exact ⟨(g1 y hy).1,by have:=(g1 y hy).2; omega⟩
           · simp only [zdm] at hy; subst hy
             exact ⟨⟨_,hp1,hx⟩,by rw [hxn,hp2,hxc]; omega⟩)
          (asc_snoc g2 (fun y hy=>by rw [hxn,hp2,hxc]; exact (g1 y hy).2))
          (by simp; omega) hd2
         refine ⟨l',d',zi3 _ _ _ _ _ _ _ ?_,h⟩; simp (disch:=omega) only [zas,zaR,e0,zbx,e1,zax,zcn,zcA,ziM,zaN hlt,zba,e2,ztN,w64_id,zha za1,e3]
       · obtain ⟨l',d',e3,h⟩:=ih (c+1) out d0 (by omega) (by omega) (fun y hy=>⟨(g1 y hy).1,by have:=(g1 y hy).2; omega⟩) g2 (by omega) hd0; refine ⟨l',d',zi3 _ _ _ _ _ _ _ ?_,h⟩; simp (disch:=omega) only [zas,zaR,za2,e0,zbx,w64_id,e3]
     · obtain ⟨l',d',e1,h⟩:=next out d ⟨fun x hx=>⟨(g1 x hx).1,by have:=(g1 x hx).2; rw [Int.add_mul]; omega⟩,g2,by rw [Int.add_mul]; omega⟩ hd
       refine ⟨l',d',zi3 _ _ _ _ _ _ _ ?_,h⟩; simp (disch:=omega) only [zas,zaR,za2,w64_id,e1]
  have second:=zf7 ps (fun i r=>∀ l:List zaP,(∀ p∈l,p∈ps∧p.Code=code)→(l.length:Int)≤i→Res (zhg ps n (List.map za1 out) d code (List.map zaV l) i)) ?_ ?_ [] (by simp) (by simp)
  · obtain ⟨l',d',e1,h⟩:=second; refine ⟨l',d',zpz _ _ _ _ _ ?_,h⟩; simp (disch:=omega) only [zaR]; exact e1
  · intro l hl hll; obtain ⟨l',d',e1,h⟩:=third l hl (by omega) n.toNat 1 out d (by omega) (by omega) (fun x hx=>⟨(hi.1 x hx).1,by have:=(hi.1 x hx).2; omega⟩) hi.2.1 (by have:=hi.2.2; omega) hd; refine ⟨l',d',zll _ _ _ _ _ _ _ ?_,h⟩; simp (disch:=omega) only [zas,za2,e1]
  · intro i hi' r hr ih l hl hll; by_cases hcode:ps[i].Code=code
    · obtain ⟨l',d',e1,h⟩:=ih (l++[ps[i]]) (by
       intro p hp; rcases zb9.1 hp with hp | hp
       · exact hl p hp
       · simp only [zdm] at hp; subst hp
         exact ⟨zbs hi',hcode⟩) (by simp; omega)
      refine ⟨l',d',zll _ _ _ _ _ _ _ ?_,h⟩; simp (disch:=omega) only [zas,zaR,zax,zcn,za9,ziM,zaN hi',zba,show (ps[i].Code == code)=true by simpa using hcode,zaM,w64_id,zha zaV,e1]
    · obtain ⟨l',d',e1,h⟩:=ih l hl (by omega); refine ⟨l',d',zll _ _ _ _ _ _ _ ?_,h⟩; simp (disch:=omega) only [zas,zaR,zax,zcn,za9,ziM,zaN hi',zba,show (ps[i].Code == code)=false by simpa using hcode,zaz,w64_id,e1]
 have stage1:=step 1 (by omega) (by omega) stage2; have stage0:=step 0 (by omega) (by omega) stage1; obtain ⟨l,d',e1,h⟩:=stage0 [] d ⟨by simp,fun j hj=>by simp at hj,by simp⟩ hd; exact ⟨l,d',zwD d ps n e1,h⟩
def zAj:zaP:=⟨0,0,[]⟩
theorem c_mpaper (ps:List zaP) (x:zaX) (hl:ps.length≤1000000):cw zpO [.sl 3 (List.map zaV ps),.agg (za1 x)] []=some (zpY (((zin ps x).map (·.2)).getD zAj)):=by
 refine zC7 ps x ?_; have key:=zi6 ps (fun p=>p.Code == x.Paper && p.Variant == x.Variant) (fun i=>zlf ps x i) (fun o=>zpY ((o.map (·.2)).getD zAj)) ?_ ?_ ?_
 · exact key
 · exact zqP _ _ _ (by simp (disch:=omega) [za2] <;> rfl)
 · intro i hi h; refine zqP _ _ _ ?_; rw [zb5] at h; simp (disch:=omega) [zaR,zax,h.1,h.2]; rfl
 · intro i hi y h hk; refine zqP _ _ _ ?_
   cases h1:(ps[i].Code == x.Paper) with
   | false=>simp (disch:=omega) [zaR,zax,w64_id,h1,hk]
   | true=>rw [h1,zkF] at h; simp (disch:=omega) [zaR,zax,w64_id,h1,h,hk]
theorem c_Seed (d:zak) (ps:List zaP) (x:zaX) (k:Nat) (p:zaP) (hd:DOk d) (hps:ps.length≤1000000) (hk:zin ps x=some (k,p)) (hp:DPaper p):∃ (y:GSeed) (d':zak),cw zo6 [.loc 1000 2 0 0,.sl 3 (List.map zaV ps),.agg (za1 x)] (mD d)=some (zlY (y,d'))∧y.Script=x.Number∧zub p y.Marks∧DOk d':=by
 have hl:=hp.1; have loop:=zf7 p.Parts (fun i r=>∀ (a:List Int) (d2:zak),(a.length:Int)=i→DOk d2→(∀ (j:Nat) (x:GPart) (v:Int),p.Parts[j]?=some x→a[j]?=some v→0≤v∧v≤x.Max)→∃ (y:GSeed) (d':zak),zkk x p (List.map zaq a) d2 i=some (zlY (y,d'))∧y.Script=x.Number∧zub p y.Marks∧DOk d') ?_ ?_ [] d (by simp) hd (by intro j x v _ h; simp at h)
 · obtain ⟨y,d',e2,h⟩:=loop; refine ⟨y,d',zzz d ps x ?_,h⟩; simp only [c_mpaper ps x hps,hk,zsJ]; exact e2
 · intro a d2 ha hd2 hok; refine ⟨⟨x.Number,a⟩,d2,zrp _ _ _ _ _ ?_,rfl,⟨by dsimp only; omega,hok⟩,hd2⟩; simp (disch:=omega) only [zas,za2,zcA,zcx,zcn,w64_id]; rw [zeg (by simp)]; rfl
 · intro i hi r hr ih a d2 ha hd2 hok; obtain ⟨hx,hx2⟩:=hp.2.2.1 _ (zbs hi); have hm:=hx.1; obtain ⟨v,d3,e3,a3,b3,hd3⟩:=zfe d2 (p.Parts[i].Max+1) hd2 (by omega)
   obtain ⟨y,d',e2,h⟩:=ih (a++[v]) d3 (by simp; omega) hd3 (by
    intro j x w hj hw; by_cases hja:j < a.length
    · rw [zqh hja] at hw; exact hok j x w hj hw
    · have:=(zbP.1 hw).1; simp at this; have hji:j=a.length:=by omega
      subst hji; simp at hw; subst hw; have:i=a.length:=by omega
      subst this; rw [zaN hi] at hj; injection hj with hj; subst hj
      omega)
   refine ⟨y,d',zrp _ _ _ _ _ ?_,h⟩; simp (disch:=omega) only [zas,zaR,zax,zcn,za9,ziy,zaN hi,zba,w64_id,e3,zbx,zha zaq,e2]
theorem c_Monitor (d:zak) (hd:DOk d):∃ (r:zbe) (d':zak),cw zmJ [.loc 1000 2 0 0] (mD d)=some (zmM (r,d'))∧OkMon r∧DOk d':=by obtain ⟨n0,d0,e0,a0,b0,hd0⟩:=zfe d 3 hd (by omega); obtain ⟨n1,d1,e1,a1,b1,hd1⟩:=zfe d0 2 hd0 (by omega); obtain ⟨n2,d2,e2,a2,b2,hd2⟩:=zfe d1 3 hd1 (by omega); obtain ⟨n3,d3,e3,a3,b3,hd3⟩:=zfe d2 (1+n0) hd2 (by omega); refine ⟨⟨n1,n2,1+n0,1+n3⟩,d3,zwC d ?_,by refine ⟨?_,?_,?_,?_⟩ <;> dsimp only <;> omega,hd3⟩; simp (disch:=omega) only [e0,e1,e2,zbx,w64_id,e3]; rfl
structure DSetup (s:zaI):Prop where
 ok:zfB s
 papers:znR s.Papers
 markers:DMarkers s.Markers
 scripts:zu7 4 s.Papers s.Scripts
theorem zv0 {ps:List zaP} (hps:znR ps) {n:Int} {p:zaP} {x:zaX} (hp:p∈ps) (hx:zoZ n p x):∃ k,zin ps x=some (k,p):=by
 unfold zin
 cases hf:fnd (fun p=>p.Code == x.Paper && p.Variant == x.Variant) 0 ps with
 | none=>have:=zqH.1 hf p hp; rw [hx.1,hx.2.1] at this; simp at this
 | some q=>obtain ⟨k,p'⟩:=q; obtain ⟨h1,h2,_⟩:=fnd_at hf; simp only [zb5,beq_iff_eq] at h2; have:=hps.2.2.2 p' (zcs h1) p hp (by rw [h2.1,hx.1]) (by rw [h2.2,hx.2.1]); rw [this]; exact ⟨k,rfl⟩
theorem scripts_ok {n:Int} (hn:n≤9) {ps:List zaP} (hps:znR ps) {l:List zaX} (h:zu7 n ps l):zq2 l:=by refine ⟨by have:=h.2.2; omega,fun x hx=>?_,h.2.1⟩; obtain ⟨p,hp,a,b,c,d,e,f,_⟩:=h.1 x hx; obtain ⟨q1,q2,q3⟩:=hps.2.2.1 p hp; exact ⟨by omega,by omega,by omega,by omega,by rw [c,a],by omega⟩
theorem c_Setup (d:zak) (hd:DOk d):∃ (s:zaI) (d':zak),cw zou [.loc 1000 2 0 0] (mD d)=some (zk5 (s,d'))∧DSetup s∧DOk d':=by
 obtain ⟨ps,cs,d0,e0,o0,p0,q0,hd0⟩:=c_Papers d hd; obtain ⟨ms,d1,e1,o1,hd1⟩:=c_Markers d0 hd0; obtain ⟨xs,d2,e2,o2,hd2⟩:=c_Scripts d1 ps 4 hd1 o0 (by omega); obtain ⟨mr,d3,e3,o3,hd3⟩:=c_Monitor d2 hd2; have hxl:=o2.2.2; have hpl:=o0.2.1; have hxs:=scripts_ok (by omega) o0 o2; have loop:=zf7 xs (fun i r=>∀ (sd:List GSeed) (d4:zak),(sd.length:Int)≤i→DOk d4→AscBy GSeed.Script sd→(∀ y∈sd,∀ x∈r,y.Script < x.Number)→(∀ y∈sd,∃ x∈xs,∃ k p,y.Script=x.Number∧zin ps x=some (k,p)∧zub p y.Marks)→∃ (s:zaI) (d':zak),zh9 ((ps,cs),d0) (ms,d1) (xs,d2) (mr,d3) (List.map zcE sd) d4 i=some (zk5 (s,d'))∧DSetup s∧DOk d') ?_ ?_ [] d3 (by simp) hd3 (fun j hj=>by simp at hj) (by simp) (by simp)
 · obtain ⟨s,d',e4,h⟩:=loop; refine ⟨s,d',zyk d ?_,h⟩; simp only [e0,e1,e2,e3,ztL,ztb,ztd,ztc]; exact e4
 · intro sd d4 hl hd4 ha _ hs; refine ⟨⟨ms,xs,ps,cs,sd,mr⟩,d4,zmO _ _ _ _ _ _ _ ?_,?_,hd4⟩
   · simp (disch:=omega) only [zas,za2,zcA,zcx,zcn]; rw [zeg (by simp),zeg (by simp),zeg (by simp)]; rfl
   · refine ⟨⟨o1.2.2.1,hxs,by dsimp only; omega,p0,fun j p c hp hc=>(q0 j p c hp hc).1,fun x hx=>?_,by dsimp only; omega,ha,fun y hy=>?_,o3,fun c hc=>?_,fun m hm=>by have:=o1.2.2.2.1 m hm; omega⟩,o0,o1,o2⟩
     · obtain ⟨p,hp,hxp⟩:=o2.1 x hx; obtain ⟨k,hk⟩:=zv0 o0 hp hxp; have hpk:=(zko hk).1; have hlt:=(zbP.1 hpk).1; exact ⟨k,p,cs[k]'(show k < cs.length by omega),hk,zaN _,hxp.2.2.2.2.2.2.2⟩
     · obtain ⟨x,hx,k,p,h1,h2,h3⟩:=hs y hy; refine ⟨k,p,?_,h3⟩; unfold zqL; dsimp only; rw [h1,zxF hxs.2.2 hx]; exact h2
     · obtain ⟨j,hj,rfl⟩:=zlG.1 hc; exact (q0 j _ _ (zaN (by simp only at hj; omega)) (zaN hj)).2
 · intro i hi r hr ih sd d4 hl hd4 ha hlt hs; obtain ⟨b,d5,e5,hd5⟩:=c_Bool d4 3 hd4 (by omega)
   have hrm:∀ x∈r,x∈xs∧xs[i].Number < x.Number:=by intro x hx; rw [← hr] at hx; obtain ⟨j,hj,rfl⟩:=zlG.1 hx; rw [List.getElem_drop]; exact ⟨zbs _,asc_lt hxs.2.2 i _ _ (by omega)⟩
   cases b with
   | false=>obtain ⟨s,d',e4,h⟩:=ih sd d5 (by omega) hd5 ha (fun y hy x hx=>hlt y hy x (by simp [hx])) hs; refine ⟨s,d',zmO _ _ _ _ _ _ _ ?_,h⟩; simp (disch:=omega) only [zas,zaR,e5,zdr,zaz,w64_id,e4]
   | true =>
     obtain ⟨p,hp,hxp⟩:=o2.1 _ (zbs hi); obtain ⟨k,hk⟩:=zv0 o0 hp hxp; obtain ⟨y,d6,e6,h1,h2,hd6⟩:=c_Seed d5 ps xs[i] k p hd5 (by omega) hk (o0.2.2.1 p hp).1
     obtain ⟨s,d',e4,h⟩:=ih (sd++[y]) d6 (by simp; omega) hd6 (asc_snoc ha (fun z hz=>by rw [h1]; exact hlt z hz _ (by simp)))
      (by
       intro z hz x hx; rcases zb9.1 hz with hz | hz
       · exact hlt z hz x (by simp [hx])
       · simp only [zdm] at hz; subst hz; rw [h1]
         exact (hrm x hx).2)
      (by
       intro z hz; rcases zb9.1 hz with hz | hz
       · exact hs z hz
       · simp only [zdm] at hz; subst hz
         exact ⟨_,zbs hi,k,p,h1,hk,h2⟩)
     refine ⟨s,d',zmO _ _ _ _ _ _ _ ?_,h⟩; simp (disch:=omega) only [zas,zaR,e5,zdr,zaM,zax,zcn,zcA,za9,zoT,zaN hi,zba,e6,zvC,w64_id,zha zcE,e4]
def Sat {β:Type} (Q:β→Prop) (o:Option β):Prop:=∃ y,o=some y∧Q y
theorem sat_of {β:Type} {Q:β→Prop} {a b:Option β} (h:∀ y,a=some y→b=some y) (ha:Sat Q a):Sat Q b:=by obtain ⟨y,e,hq⟩:=ha; exact ⟨y,h y e,hq⟩
theorem sat_some {β:Type} {Q:β→Prop} {y:β} (h:Q y):Sat Q (some y):=⟨y,rfl,h⟩
theorem ofScript {s:zaI} (hs:DSetup s) {x:zaX} (hx:x∈s.Scripts):∃ k p,zin s.Papers x=some (k,p)∧p∈s.Papers∧zoZ 4 p x∧DPaper p:=by obtain ⟨p,hp,h⟩:=hs.scripts.1 x hx; obtain ⟨k,hk⟩:=zv0 hs.papers hp h; exact ⟨k,p,hk,hp,h,(hs.papers.2.2.1 p hp).1⟩
def FullEv (n:Int) (e:zab):Prop:=e.Pages.length≤12∧e.Kind=0∧n≤e.Stamp.Time∧e.Stamp.Time≤n+120∧1000≤e.Stamp.Seq∧e.Marker=0
theorem c_FullK (d:zak) (s:zaI) (n:Int) (hd:DOk d) (hs:DSetup s) (hn:0≤n∧n≤1000):∃ (l:List zab) (d':zak),cw zo5 [.loc 1000 2 0 0,.agg (zaF s),I n] (mD d)=some (zkp (l,d'))∧l.length≤120∧(∀ e∈l,FullEv n e)∧DOk d':=by
 have hm2:=hs.markers.2.1; have hsl:=hs.scripts.2.2; have hpl:=hs.papers.2.1
 let Q:AV×Mem→Prop:=fun y=>∃ (l:List zab) (d':zak),y=zkp (l,d')∧l.length≤120∧(∀ e∈l,FullEv n e)∧DOk d'
 have loop:=zf7 s.Scripts (fun i _=>∀ (out:List zab) (d:zak),(out.length:Int)≤15*i→(∀ e∈out,FullEv n e)→DOk d→Sat Q (zki s n (List.map zaa out) d i)) ?_ ?_ [] d (by simp) (by simp) hd
 · obtain ⟨y,e1,l,d',rfl,h⟩:=loop; exact ⟨l,d',zzx _ _ _ e1,h⟩
 · intro out d hl hp hd; refine sat_of (fun y=>zrm _ _ _ _ _) ?_; simp (disch:=omega) only [zas,za2,zcn]; exact sat_some ⟨out,d,rfl,by omega,hp,hd⟩
 · intro i hi r _ ih out d hl hp hd; obtain ⟨k,p,hk,hpm,hx,hdp⟩:=ofScript hs (zbs hi); have hpp:=hdp.1; have hpg:=hx.2.2.2.2.2.1; refine sat_of (fun y=>zrm _ _ _ _ _) ?_; simp (disch:=omega) only [zas,zaR,zax,za9,zoT,zaN hi,zba,c_mpaper s.Papers _ (show s.Papers.length≤1000000 by omega),hk,ze5,zmr,zsJ]; refine zf7 s.Markers (fun j _=>∀ (out:List zab) (d:zak),(out.length:Int)≤15*i+3*j→(∀ e∈out,FullEv n e)→DOk d→Sat Q (zkj s n i p (List.map zaa out) d j)) ?_ ?_ out d (by omega) hp hd
   · intro out d hl hp hd; refine sat_of (fun y=>zrn _ _ _ _ _ _ _) ?_; simp (disch:=omega) only [zas,za2,w64_id]; exact ih out d (by omega) hp hd
   · intro j hj r _ ih2 out d hl hp hd; refine sat_of (fun y=>zrn _ _ _ _ _ _ _) ?_; simp (disch:=omega) only [zas,zaR]; refine zf7 p.Parts (fun q _=>∀ (out:List zab) (d:zak),(out.length:Int)≤15*i+3*j+q→(∀ e∈out,FullEv n e)→DOk d→Sat Q (zhf s n i p j (List.map zaa out) d q)) ?_ ?_ out d (by omega) hp hd
     · intro out d hl hp hd; refine sat_of (fun y=>zro _ _ _ _ _ _ _ _) ?_; simp (disch:=omega) only [zas,za2,w64_id]; exact ih2 out d (by omega) hp hd
     · intro q hq r _ ih3 out d hl hp hd; have hmx:=(hdp.2.2.1 _ (zbs hq)).1.1; refine sat_of (fun y=>zro _ _ _ _ _ _ _ _) ?_; by_cases hkd:p.Parts[q].Kind=1
       · obtain ⟨n0,d0,e0,a0,b0,hd0⟩:=zfe d 4 hd (by omega); by_cases hz:0 < n0
         · obtain ⟨n1,d1,e1,a1,b1,hd1⟩:=zfe d0 (p.Parts[q].Max+1) hd0 (by omega); simp (disch:=omega) only [zas,zaR,zax,za9,ziy,zaN hq,zba,show (p.Parts[q].Kind == 1)=true by simpa using hkd,zaM,e0,zbx,zi5,zaN hj,zoT,zaN hi,w64_id,e1,zcn,zha zaa]; refine ih3 (out++[_]) d1 (by simp; omega) ?_ hd1; intro x hx'; rcases zb9.1 hx' with hx' | hx'
           · exact hp x hx'
           · simp only [zdm] at hx'; subst hx'; refine ⟨?_,rfl,?_,?_,?_,rfl⟩ <;> dsimp only <;> omega
         · simp (disch:=omega) only [zas,zaR,za2,zax,za9,ziy,zaN hq,zba,show (p.Parts[q].Kind == 1)=true by simpa using hkd,zaM,e0,zbx,w64_id]; exact ih3 out d0 (by omega) hp hd0
       · simp (disch:=omega) only [zas,zaR,za2,zax,za9,ziy,zaN hq,zba,show (p.Parts[q].Kind == 1)=false by simpa using hkd,zaz,w64_id]; exact ih3 out d (by omega) hp hd
end Go.Proofs.YtikogkgdkdmljaaGreat
end
