/- Loops and branches of printed trees. -/
import Derived.Test.YticojpmhlhfhlaaGreatAll
import Derived.Test.YticojpmhlhfhlaaGreatAbTop
namespace Go.Proofs.YticojpmhlhfhlaaGreat
open Go.Ab
set_option linter.unusedSimpArgs false
noncomputable def dec (p:Prop):Bool:=@decide p (Classical.propDecidable p)
theorem zax {p:Prop} (h:p):dec p=true:=by unfold dec; simp [h]
theorem zaz {p:Prop} (h:¬p):dec p=false:=by unfold dec; simp [h]
theorem zfM {p q:Prop} (h:p↔q):dec p=dec q:=by rw [propext h]
theorem zsw {p:Prop}:dec p=true↔p:=by unfold dec; simp
theorem zIl {p:Prop}:dec p=false↔¬p:=by unfold dec; simp
theorem zdG {b:Bool} {p:Prop} (h:b=true↔p):b=dec p:=by
 by_cases hp:p
 · rw [zax hp]; exact h.2 hp
 · rw [zaz hp]; cases b with
   | true=>exact absurd (h.1 rfl) hp
   | false=>rfl
theorem zb1 {β:Type} (b:Bool) (t e:Option β):brn b t e=if b=true then t else e:=by cases b <;> rfl
variable {α β:Type}
theorem zaZ (l:List α) (P:Int→List α→Prop) (h0:P l.length [])
  (hs:∀ (i:Nat) (hi:i < l.length) (r:List α),l.drop (i+1)=r→P ((i:Int)+1) r→P i (l[i] :: r)):P 0 l:=by
 have key:∀ (n i:Nat),i+n=l.length→P (i:Int) (l.drop i):=by
  intro n
  induction n with
  | zero =>
    intro i hi
    have:l.drop i=[]:=List.drop_eq_nil_of_le (by omega)
    rw [this,show i=l.length by omega]
    exact h0
  | succ n ih =>
    intro i hi
    have hlt:i < l.length:=by omega
    rw [List.drop_eq_getElem_cons hlt]
    have:=ih (i+1) (by omega)
    rw [Int.natCast_add] at this
    exact hs i hlt _ rfl this
 have:=key l.length 0 (by omega)
 simpa using this
theorem zjX (n:Nat) (G:∀ j,j < n→Prop) (K:Int→Option β) (S:β→Prop) (z:β) (h0:(∀ j hj,G j hj)→K n=some z)
  (hno:∀ (i:Nat) (hi:i < n),(∀ j (hj:j < i),G j (by omega))→¬ G i hi→∃ y,S y∧K i=some y) (hyes:∀ (i:Nat) (hi:i < n) (y:β),G i hi→K ((i:Int)+1)=some y→K i=some y) :
  ((∀ j hj,G j hj)∧K 0=some z)∨((∃ j hj,¬ G j hj)∧∃ y,S y∧K 0=some y):=by
 have key:∀ (m i:Nat),i+m=n→(∀ j (hj:j < i) (hn:j < n),G j hn)→((∀ j hj,i≤j→G j hj)∧K (i:Int)=some z)∨((∃ j hj,¬ G j hj)∧∃ y,S y∧K (i:Int)=some y):=by
  intro m
  induction m with
  | zero =>
    intro i hi hpre
    left
    refine ⟨fun j hj h=>by omega,?_⟩
    rw [show i=n by omega,h0 (fun j hj=>hpre j (by omega) hj)]
  | succ m ih =>
    intro i hi hpre
    by_cases hg:G i (by omega)
    · have:=ih (i+1) (by omega) (fun j hj hn=>by
       by_cases e:j=i
       · subst e; exact hg
       · exact hpre j (by omega) hn)
      rw [Int.natCast_add] at this
      rcases this with ⟨h1,h2⟩ | ⟨h1,y,h2,h3⟩
      · left
        refine ⟨fun j hj h=>?_,hyes i (by omega) z hg h2⟩
        by_cases e:j=i
        · subst e; exact hg
        · exact h1 j hj (by omega)
      · exact .inr ⟨h1,y,h2,hyes i (by omega) y hg h3⟩
    · exact .inr ⟨⟨i,by omega,hg⟩,hno i (by omega) (fun j hj=>hpre j hj _) hg⟩
 rcases key n 0 (by omega) (fun j hj=>by omega) with ⟨h1,h2⟩ | h
 · exact .inl ⟨fun j hj=>h1 j hj (Nat.zero_le _),h2⟩
 · exact .inr h
theorem zm0 (n:Nat) (G:∀ j,j < n→Prop) (K:Int→Option β) (q:Bool→β) (h0:K n=some (q true))
  (hno:∀ (i:Nat) (hi:i < n),¬ G i hi→K i=some (q false)) (hyes:∀ (i:Nat) (hi:i < n) (y:β),G i hi→K ((i:Int)+1)=some y→K i=some y) :
  K 0=some (q (dec (∀ j hj,G j hj))):=by
 rcases zjX n G K (fun x=>x=q false) (q true) (fun _=>h0) (fun i hi _ h=>⟨_,rfl,hno i hi h⟩) hyes with ⟨h1,h2⟩ | ⟨⟨j,hj,h1⟩,y,rfl,h2⟩
 · rw [h2,zax h1]
 · rw [h2,zaz (fun h=>h1 (h j hj))]
theorem any_bool (n:Nat) (G:∀ j,j < n→Prop) (K:Int→Option β) (q:Bool→β) (h0:K n=some (q false))
  (hyes:∀ (i:Nat) (hi:i < n),G i hi→K i=some (q true)) (hno:∀ (i:Nat) (hi:i < n) (y:β),¬ G i hi→K ((i:Int)+1)=some y→K i=some y) :
  K 0=some (q (dec (∃ j hj,G j hj))):=by
 have h:=zm0 n (fun i hi=>¬ G i hi) K (fun b=>q (!b)) (by simpa using h0) (fun i hi hg=>by simpa using hyes i hi (Classical.not_not.1 hg)) hno
 rw [h]
 congr 2
 by_cases hp:∃ j hj,G j hj
 · rw [zax hp,zaz (fun h=>by obtain ⟨j,h1,h2⟩:=hp; exact h j h1 h2)]; rfl
 · rw [zaz hp,zax (fun j h1 h2=>hp ⟨j,h1,h2⟩)]; rfl
theorem all_err (n:Nat) (G:∀ j,j < n→Prop) (K:Int→Option β) (q:Int→β) (h0:K n=some (q 0))
  (hno:∀ (i:Nat) (hi:i < n),¬ G i hi→∃ e,e≠0∧K i=some (q e)) (hyes:∀ (i:Nat) (hi:i < n) (y:β),G i hi→K ((i:Int)+1)=some y→K i=some y) :
  ∃ e,K 0=some (q e)∧(e=0↔∀ j hj,G j hj):=by
 rcases zjX n G K (fun x=>∃ e,e≠0∧x=q e) (q 0) (fun _=>h0) (fun i hi _ h=>by obtain ⟨e,h1,h2⟩:=hno i hi h; exact ⟨_,⟨e,h1,rfl⟩,h2⟩) hyes with ⟨h1,h2⟩ | ⟨⟨j,hj,h1⟩,y,⟨e,h2,rfl⟩,h3⟩
 · exact ⟨0,h2,by simp; exact h1⟩
 · exact ⟨e,h3,fun h=>absurd h h2,fun h=>absurd (h j hj) h1⟩
theorem all_from (s n:Nat) (hs:s≤n) (G:∀ j,s≤j→j < n→Prop) (K:Int→Option β) (q:Bool→β) (h0:K n=some (q true))
  (hno:∀ (i:Nat) (hs:s≤i) (hi:i < n),¬ G i hs hi→K i=some (q false)) (hyes:∀ (i:Nat) (hs:s≤i) (hi:i < n) (y:β),G i hs hi→K ((i:Int)+1)=some y→K i=some y) :
  K s=some (q (dec (∀ j hs hj,G j hs hj))):=by
 have h:=zm0 (n - s) (fun j hj=>G (s+j) (by omega) (by omega)) (fun i=>K (s+i)) q (by
   rw [show ((s:Int)+((n - s:Nat):Int))=n by omega]; exact h0)
  (fun i hi hg=>by have:=hno (s+i) (by omega) (by omega) hg; rw [Int.natCast_add] at this; exact this)
  (fun i hi y hg hk=>by
   have:=hyes (s+i) (by omega) (by omega) y hg (by rw [Int.natCast_add,Int.add_assoc]; exact hk)
   rw [Int.natCast_add] at this; exact this)
 rw [Int.add_zero] at h
 rw [h]
 congr 2
 refine zfM ⟨fun h j h1 h2=>?_,fun h j hj=>h (s+j) (by omega) (by omega)⟩
 have:=h (j - s) (by omega)
 simpa only [show s+(j - s)=j by omega] using this
theorem znu {l:List α} {G:α→Prop}:(∀ j (hj:j < l.length),G l[j])↔∀ x∈l,G x:=by
 constructor
 · intro h x hx
   obtain ⟨j,hj,rfl⟩:=List.mem_iff_getElem.1 hx
   exact h j hj
 · exact fun h j hj=>h _ (List.getElem_mem hj)
theorem zcL {i:Nat} (h:0 < i):((i:Int) - 1).toNat=i - 1:=by omega
def AscBy (f:α→Int) (l:List α):Prop:=∀ j (hj:j+1 < l.length),f l[j] < f l[j+1]
theorem zsi {f:α→Int} {l:List α}:(∀ i (hi:i < l.length),∀ h:0 < i,f (l[i - 1]'(by omega)) < f l[i])↔AscBy f l:=by
 constructor
 · intro h j hj
   exact h (j+1) hj (by omega)
 · intro h i hi h0
   have:=h (i - 1) (by omega)
   simp only [show i - 1+1=i by omega] at this
   exact this
theorem asc_lt {f:α→Int} {l:List α} (h:AscBy f l):∀ (i j:Nat) (hj:j < l.length) (hij:i < j),f (l[i]'(by omega)) < f l[j]:=by
 intro i j hj hij
 obtain ⟨d,rfl⟩:∃ d,j=i+1+d:=⟨j - i - 1,by omega⟩
 induction d with
 | zero=>exact h i hj
 | succ d ih =>
   have h1:=ih (by omega) (by omega)
   have h2:=h (i+1+d) (by omega)
   have:l[i+1+(d+1)]'hj=l[i+1+d+1]'(by omega):=rfl
   rw [this]
   exact Int.lt_trans h1 h2
def fnd (p:α→Bool):Nat→List α→Option (Nat×α)
 | _,[]=>none
 | i,x :: r=>if p x=true then some (i,x) else fnd p (i+1) r
theorem fnd_some {p:α→Bool}:∀ {l:List α} {i j:Nat} {x:α},fnd p i l=some (j,x)→i≤j∧l[j - i]?=some x∧p x=true∧∀ k y,k < j - i→l[k]?=some y→p y=false
 | [],i,j,x,h=>by simp [fnd] at h
 | a :: l,i,j,x,h=>by
   simp only [fnd] at h
   split at h
   · rename_i ha
     simp only [Option.some.injEq,Prod.mk.injEq] at h
     obtain ⟨rfl,rfl⟩:=h
     exact ⟨Nat.le_refl _,by simp,ha,fun k y hk=>by omega⟩
   · rename_i ha
     obtain ⟨h1,h2,h3,h4⟩:=fnd_some h
     have e:j - i=(j - (i+1))+1:=by omega
     refine ⟨by omega,by rw [e]; simpa using h2,h3,fun k y hk hy=>?_⟩
     cases k with
     | zero=>simp at hy; subst hy; simpa using ha
     | succ k=>exact h4 k y (by omega) (by simpa using hy)
theorem fnd_at {p:α→Bool} {l:List α} {j:Nat} {x:α} (h:fnd p 0 l=some (j,x)):l[j]?=some x∧p x=true∧∀ k y,k < j→l[k]?=some y→p y=false:=by
 have:=(fnd_some h).2
 simpa using this
theorem zsl {p:α→Bool}:∀ {l:List α} {i:Nat},fnd p i l=none↔∀ x∈l,p x=false
 | [],i=>by simp [fnd]
 | a :: l,i=>by
   simp only [fnd]
   split
   · rename_i ha
     simp [ha]
   · rename_i ha
     rw [zsl]
     simp only [List.mem_cons,forall_eq_or_imp]
     exact ⟨fun h=>⟨by simpa using ha,h⟩,fun h=>h.2⟩
theorem fnd_of {p:α→Bool} {l:List α} {j:Nat} {x:α} (hx:l[j]?=some x) (hp:p x=true) (hk:∀ k y,k < j→l[k]?=some y→p y=false):fnd p 0 l=some (j,x):=by
 cases h:fnd p 0 l with
 | none =>
   have:=zsl.1 h x (List.mem_of_getElem? hx)
   rw [hp] at this; cases this
 | some q =>
   obtain ⟨i,y⟩:=q
   obtain ⟨h1,h2,h3⟩:=fnd_at h
   rcases Nat.lt_trichotomy i j with c | c | c
   · have:=hk i y c h1; rw [h2] at this; cases this
   · subst c; rw [hx] at h1; injection h1 with h1; rw [h1]
   · have:=h3 j x c hx; rw [hp] at this; cases this
theorem zhH (l:List α) (p:α→Bool) (K:Int→Option β) (R:Option (Nat×α)→β) (h0:K l.length=some (R none))
  (hyes:∀ (i:Nat) (hi:i < l.length),p l[i]=true→K i=some (R (some (i,l[i])))) (hno:∀ (i:Nat) (hi:i < l.length) (y:β),p l[i]=false→K ((i:Int)+1)=some y→K i=some y) :
  K 0=some (R (fnd p 0 l)):=by
 have H:=zjX l.length (fun j hj=>p l[j]=false) K (fun y=>∃ i x,fnd p 0 l=some (i,x)∧y=R (some (i,x))) (R none) (fun _=>h0)
  (fun i hi hpre hn=>⟨_,⟨i,l[i],fnd_of (List.getElem?_eq_getElem hi) (by simpa using hn) (fun k y hk hy=>by
   obtain ⟨hk',rfl⟩:=List.getElem?_eq_some_iff.1 hy
   exact hpre k hk),rfl⟩,hyes i hi (by simpa using hn)⟩) hno
 rcases H with ⟨h1,h2⟩ | ⟨_,y,⟨i,x,h2,rfl⟩,h3⟩
 · rw [h2,zsl.2 ((znu (G:=fun x=>p x=false)).1 h1)]
 · rw [h3,h2]
def mkN (n:Nat) (f:Nat→α) (d:α) (i:Nat):List α:=(List.range n).map fun j=>if j < i then f j else d
theorem zuw (n:Nat) (f:Nat→α) (d:α) (i:Nat):(mkN n f d i).length=n:=by simp [mkN]
theorem zBy {n:Nat} {f:Nat→α} {d:α} {i:Nat} (h:i < n):(mkN n f d i)[i]?=some d:=by
 simp [mkN,h]
theorem mkN_zero (n:Nat) (f:Nat→α) (d:α):mkN n f d 0=List.replicate n d:=by
 unfold mkN
 simp only [Nat.not_lt_zero,if_false,List.map_const',List.length_range]
theorem zxv {n:Nat} {f:Nat→α} {d:α} {i:Nat} {v:α} (hv:v=f i):(mkN n f d i).set i v=mkN n f d (i+1):=by
 subst hv
 apply List.ext_getElem?
 intro j
 by_cases hj:j < n
 · by_cases e:i=j
   · subst e
     rw [List.getElem?_set_self (by rw [zuw]; exact hj)]
     simp [mkN,hj]
   · rw [List.getElem?_set_ne e]
     simp only [mkN,List.getElem?_map,List.getElem?_range hj,Option.map_some]
     congr 1
     by_cases h:j < i
     · rw [if_pos h,if_pos (by omega)]
     · rw [if_neg h,if_neg (by omega)]
 · rw [List.getElem?_eq_none (by rw [List.length_set,zuw]; omega),List.getElem?_eq_none (by rw [zuw]; omega)]
theorem mkN_same {n:Nat} {f:Nat→α} {d:α} {i:Nat} (h:f i=d):mkN n f d i=mkN n f d (i+1):=by
 unfold mkN
 apply List.map_congr_left
 intro j _
 by_cases c:j < i
 · rw [if_pos c,if_pos (by omega)]
 · by_cases e:j=i
   · subst e; rw [if_neg c,if_pos (by omega),h]
   · rw [if_neg c,if_neg (by omega)]
theorem mkN_all (n:Nat) (f:Nat→α) (d:α):mkN n f d n=(List.range n).map f:=by
 unfold mkN
 apply List.map_congr_left
 intro j hj
 rw [if_pos (List.mem_range.1 hj)]
theorem zc6 {γ:Type} (f:α→γ) (l:List α) (i:Nat) (a:α):(List.map f l).set i (f a)=List.map f (l.set i a):=List.map_set.symm
theorem zbu {γ:Type} (f:α→γ) (l:List α) (a:α):List.map f l++[f a]=List.map f (l++[a]):=by simp
theorem zxi {γ:Type} (f:α→γ) (n:Nat) (a:α):List.replicate n (f a)=List.map f (List.replicate n a):=by simp
end Go.Proofs.YticojpmhlhfhlaaGreat
