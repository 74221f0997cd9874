/- What the dice make is right: in plain terms. -/
import Derived.Test.YtdclabgakicjeaaDoorXSp
import Derived.Test.YtdclabgakicjeaaDoorK0
import Derived.Test.YtdclabgakicjeaaDoorAb2
import Derived.Test.YtdclabgakicjeaaDoorXAnn
import Derived.Lib.AppendIntMem
import Derived.Test.YtdclabgakicjeaaDoorXCs
import Derived.Control
set_option linter.unusedSimpArgs false
set_option linter.unusedVariables false
set_option linter.unusedSectionVars false
noncomputable section
namespace Go.Proofs.YtdclabgakicjeaaDoor
open Go.Ab
theorem w6Q {n:Int} (h1:-9223372036854775808≤n:=by omega) (h2:n < 9223372036854775808:=by omega):w64 n=n:=w64_id h1 h2
theorem iNQ {c:Prop} [Decidable c] {α:Type} {t e:α} (h:¬c:=by omega):ite c t e=e:=if_neg h
theorem iPQ {c:Prop} [Decidable c] {α:Type} {t e:α} (h:c:=by omega):ite c t e=t:=if_pos h
theorem iNs {c:Prop} [Decidable c] {α:Type} {t e:α} (h:¬c:=by simp):ite c t e=e:=if_neg h
theorem cPQ {p:Prop} {β:Type} {x:Option β} (h:p:=by omega):chk p x=x:=zao h x
variable {α:Type}
def dec (p:Prop):Bool:=@decide p (Classical.propDecidable p)
def AscBy (f:α→Int) (l:List α):Prop:=∀ j (hj:j+1 < l.length),f l[j] < f l[j+1]
def fnd (p:α→Bool):Nat→List α→Option (Nat×α)
 | _,[]=>none
 | i,x :: r=>if p x=true then some (i,x) else fnd p (i+1) r
def OkPart (p:GPart):Prop:=
 (1≤p.Max∧p.Max≤40)∧(0≤p.Topic∧p.Topic < 16)∧(0≤p.Objective∧p.Objective < 6)∧((p.Kind=1∧p.Options=0∧p.Key=0)∨(p.Kind=2∧2≤p.Options∧p.Options≤5∧0≤p.Key∧p.Key < p.Options))
def sumMax (l:List GPart):Int:=(l.map (·.Max)).sum
def OkPaper (p:zaq):Prop:=
 (0≤p.Code∧p.Code≤31)∧(0≤p.Variant∧p.Variant < 4)∧(1≤p.Parts.length∧p.Parts.length≤24)∧(∀ x∈p.Parts,OkPart x)∧sumMax p.Parts≤200
def OkKeys (o:Int) (ks:List Int):Prop:=(∀ k∈ks,0≤k∧k < o)∧AscBy id ks
def zji (p:zaq) (s:zaQ):Prop:=
 OkPaper p∧s.Keys.length=p.Parts.length∧s.Withdrawn.length=p.Parts.length∧∀ (j:Nat) (x:GPart) (ks:List Int) (k:Int),p.Parts[j]?=some x→s.Keys[j]?=some ks→s.Withdrawn[j]?=some k→OkKeys x.Options ks∧(0≤k∧k≤2)
def Short (s:zaQ):Prop:=∀ ks∈s.Keys,ks.length≤1000000
def zlQ (m:zaJ):Prop:=
 (1≤m.ID∧m.ID≤99)∧(-1≤m.Centre∧m.Centre≤99)∧(1≤m.Level∧m.Level≤3)∧(0≤m.Capacity∧m.Capacity≤60)∧(∀ n∈m.Papers,0≤n∧n≤31)
def znl (l:List zaJ):Prop:=l.length≤16∧(∀ m∈l,zlQ m∧AscBy id m.Papers)∧AscBy zaJ.ID l
def OkScript (x:zap):Prop:=
 (0≤x.Paper∧x.Paper≤31)∧(0≤x.Candidate∧x.Candidate≤9999)∧(0≤x.Centre∧x.Centre≤99)∧(0≤x.Variant∧x.Variant≤31)∧x.Number=x.Paper*10000+x.Candidate∧x.Pages.length≤12
def OkScripts (l:List zap):Prop:=l.length≤60∧(∀ x∈l,OkScript x)∧AscBy zap.Number l
def OkMon (r:zaN):Prop:=(0≤r.Part∧r.Part≤200)∧(0≤r.Total∧r.Total≤200)∧(1≤r.Window∧r.Window≤20)∧(1≤r.Fails∧r.Fails≤r.Window)
def OkAns (p:zaq) (a:List Int):Prop:=a.length=p.Parts.length∧∀ (j:Nat) (x:GPart) (v:Int),p.Parts[j]?=some x→a[j]?=some v→x.Kind≠1→-2≤v∧v < x.Options
def scriptOf (l:List zap) (n:Int):Option zap:=(fnd (fun x=>x.Number == n) 0 l).map (·.2)
def zff (ps:List zaq) (x:zap):Option (Nat×zaq):=fnd (fun p=>p.Code == x.Paper && p.Variant == x.Variant) 0 ps
def paperOf (s:zbN) (n:Int):Option (Nat×zaq):=(scriptOf s.Scripts n).bind (zff s.Papers)
def OkMarks (p:zaq) (m:List Int):Prop:=m.length=p.Parts.length∧∀ (j:Nat) (x:GPart) (v:Int),p.Parts[j]?=some x→m[j]?=some v→0≤v∧v≤x.Max
structure OkSetup (s:zbN):Prop where
 markers:znl s.Markers
 scripts:OkScripts s.Scripts
 papers:s.Papers.length≤32
 len:s.Schemes.length=s.Papers.length
 schemes:∀ (j:Nat) (p:zaq) (c:zaQ),s.Papers[j]?=some p→s.Schemes[j]?=some c→zji p c
 script:∀ x∈s.Scripts,∃ (k:Nat) (p:zaq) (c:zaQ),zff s.Papers x=some (k,p)∧s.Schemes[k]?=some c∧OkAns p x.Answers
 seeds:s.Seeds.length≤12
 asc:AscBy GSeed.Script s.Seeds
 seed:∀ x∈s.Seeds,∃ (k:Nat) (p:zaq),paperOf s x.Script=some (k,p)∧OkMarks p x.Marks
 monitor:OkMon s.Monitor
 short:∀ c∈s.Schemes,Short c
 short2:∀ m∈s.Markers,m.Papers.length≤1000000
end Go.Proofs.YtdclabgakicjeaaDoor
namespace Go.Proofs.YtdclabgakicjeaaDoor
open Go.Ab
theorem zkU {β:Type} (b:Bool) (t e:Option β):brn b t e=if b=true then t else e:=by cases b <;> rfl
variable {α β:Type}
theorem zgc (l:List α) (P:Int→List α→Prop) (h0:P l.length [])
  (hs:∀ (i:Nat) (hi:i < l.length) (r:List α),l.drop (i+1)=r→P ((i:Int)+1) r→P i (l[i] :: r)):P 0 l:=by
 have key:∀ (n i:Nat),i+n=l.length→P (i:Int) (l.drop i):=by
  intro n
  induction n with
  | zero=>intro i hi; have:l.drop i=[]:=List.drop_eq_nil_of_le (by omega); rw [this,show i=l.length by omega]; exact h0
  | succ n ih =>
    intro i hi; have hlt:i < l.length:=by omega
    rw [List.drop_eq_getElem_cons hlt]; have:=ih (i+1) (by omega); rw [Int.natCast_add] at this; exact hs i hlt _ rfl this
 have:=key l.length 0 (by omega); simpa using this
theorem all_gen (n:Nat) (G:∀ j,j < n→Prop) (K:Int→Option β) (S:β→Prop) (z:β) (h0:(∀ j hj,G j hj)→K n=some z)
  (hno:∀ (i:Nat) (hi:i < n),(∀ j (hj:j < i),G j (by omega))→¬ G i hi→∃ y,S y∧K i=some y) (hyes:∀ (i:Nat) (hi:i < n) (y:β),G i hi→K ((i:Int)+1)=some y→K i=some y):((∀ j hj,G j hj)∧K 0=some z)∨((∃ j hj,¬ G j hj)∧∃ y,S y∧K 0=some y):=by
 have key:∀ (m i:Nat),i+m=n→(∀ j (hj:j < i) (hn:j < n),G j hn)→((∀ j hj,i≤j→G j hj)∧K (i:Int)=some z)∨((∃ j hj,¬ G j hj)∧∃ y,S y∧K (i:Int)=some y):=by
  intro m
  induction m with
  | zero=>intro i hi hpre; left; refine ⟨fun j hj h=>by omega,?_⟩; rw [show i=n by omega,h0 (fun j hj=>hpre j (by omega) hj)]
  | succ m ih =>
    intro i hi hpre; by_cases hg:G i (by omega)
    · have:=ih (i+1) (by omega) (fun j hj hn=>by
       by_cases e:j=i
       · subst e; exact hg
       · exact hpre j (by omega) hn)
      rw [Int.natCast_add] at this; rcases this with ⟨h1,h2⟩ | ⟨h1,y,h2,h3⟩
      · left; refine ⟨fun j hj h=>?_,hyes i (by omega) z hg h2⟩; by_cases e:j=i
        · subst e; exact hg
        · exact h1 j hj (by omega)
      · exact .inr ⟨h1,y,h2,hyes i (by omega) y hg h3⟩
    · exact .inr ⟨⟨i,by omega,hg⟩,hno i (by omega) (fun j hj=>hpre j hj _) hg⟩
 rcases key n 0 (by omega) (fun j hj=>by omega) with ⟨h1,h2⟩ | h
 · exact .inl ⟨fun j hj=>h1 j hj (Nat.zero_le _),h2⟩
 · exact .inr h
theorem all_get {l:List α} {G:α→Prop}:(∀ j (hj:j < l.length),G l[j])↔∀ x∈l,G x:=by
 constructor
 · intro h x hx; obtain ⟨j,hj,rfl⟩:=List.mem_iff_getElem.1 hx; exact h j hj
 · exact fun h j hj=>h _ (List.getElem_mem hj)
theorem fnd_some {p:α→Bool}:∀ {l:List α} {i j:Nat} {x:α},fnd p i l=some (j,x)→i≤j∧l[j - i]?=some x∧p x=true∧∀ k y,k < j - i→l[k]?=some y→p y=false
 | [],i,j,x,h=>by simp [fnd] at h
 | a :: l,i,j,x,h=>by
   simp only [fnd] at h; split at h
   · rename_i ha; simp only [Option.some.injEq,Prod.mk.injEq] at h; obtain ⟨rfl,rfl⟩:=h; exact ⟨Nat.le_refl _,by simp,ha,fun k y hk=>by omega⟩
   · rename_i ha; obtain ⟨h1,h2,h3,h4⟩:=fnd_some h; have e:j - i=(j - (i+1))+1:=by omega
     refine ⟨by omega,by rw [e]; simpa using h2,h3,fun k y hk hy=>?_⟩
     cases k with
     | zero=>simp at hy; subst hy; simpa using ha
     | succ k=>exact h4 k y (by omega) (by simpa using hy)
theorem fnd_at {p:α→Bool} {l:List α} {j:Nat} {x:α} (h:fnd p 0 l=some (j,x)):l[j]?=some x∧p x=true∧∀ k y,k < j→l[k]?=some y→p y=false:=by have:=(fnd_some h).2; simpa using this
theorem zjz {p:α→Bool}:∀ {l:List α} {i:Nat},fnd p i l=none↔∀ x∈l,p x=false
 | [],i=>by simp [fnd]
 | a :: l,i=>by
   simp only [fnd]; split
   · rename_i ha; simp [ha]
   · rename_i ha; rw [zjz]; simp only [List.mem_cons,forall_eq_or_imp]; exact ⟨fun h=>⟨by simpa using ha,h⟩,fun h=>h.2⟩
theorem fnd_of {p:α→Bool} {l:List α} {j:Nat} {x:α} (hx:l[j]?=some x) (hp:p x=true) (hk:∀ k y,k < j→l[k]?=some y→p y=false):fnd p 0 l=some (j,x):=by
 cases h:fnd p 0 l with
 | none=>have:=zjz.1 h x (List.mem_of_getElem? hx); rw [hp] at this; cases this
 | some q =>
   obtain ⟨i,y⟩:=q; obtain ⟨h1,h2,h3⟩:=fnd_at h; rcases Nat.lt_trichotomy i j with c | c | c
   · have:=hk i y c h1; rw [h2] at this; cases this
   · subst c; rw [hx] at h1; injection h1 with h1; rw [h1]
   · have:=h3 j x c hx; rw [hp] at this; cases this
theorem find_gen (l:List α) (p:α→Bool) (K:Int→Option β) (R:Option (Nat×α)→β) (h0:K l.length=some (R none))
  (hyes:∀ (i:Nat) (hi:i < l.length),p l[i]=true→K i=some (R (some (i,l[i])))) (hno:∀ (i:Nat) (hi:i < l.length) (y:β),p l[i]=false→K ((i:Int)+1)=some y→K i=some y):K 0=some (R (fnd p 0 l)):=by
 have H:=all_gen l.length (fun j hj=>p l[j]=false) K (fun y=>∃ i x,fnd p 0 l=some (i,x)∧y=R (some (i,x))) (R none) (fun _=>h0)
  (fun i hi hpre hn=>⟨_,⟨i,l[i],fnd_of (List.getElem?_eq_getElem hi) (by simpa using hn) (fun k y hk hy=>by
   obtain ⟨hk',rfl⟩:=List.getElem?_eq_some_iff.1 hy
   exact hpre k hk),rfl⟩,hyes i hi (by simpa using hn)⟩) hno
 rcases H with ⟨h1,h2⟩ | ⟨_,y,⟨i,x,h2,rfl⟩,h3⟩
 · rw [h2,zjz.2 ((all_get (G:=fun x=>p x=false)).1 h1)]
 · rw [h3,h2]
theorem map_set' {γ:Type} (f:α→γ) (l:List α) (i:Nat) (a:α):(List.map f l).set i (f a)=List.map f (l.set i a):=List.map_set.symm
theorem zbh {γ:Type} (f:α→γ) (l:List α) (a:α):List.map f l++[f a]=List.map f (l++[a]):=by simp
theorem map_rep {γ:Type} (f:α→γ) (n:Nat) (a:α):List.replicate n (f a)=List.map f (List.replicate n a):=by simp
end Go.Proofs.YtdclabgakicjeaaDoor
namespace Go.Proofs.YtdclabgakicjeaaDoor
open Go.Ab Go.RowKit Go.Shelf
set_option maxRecDepth 20000
theorem ora {f:FuncId} {o:List AV→Option (AV×Mem)} (hz:∀ args,zOrc f args []=o args) (he:enters zP f=true)
  (H:∀ args r ms',o args=some (r,ms')→ms'=[]∧∀ (w:World) (S:Nat→Prop) (κ:Kap) (vals:Array Value),vals.size=args.length→(∀ g,S g→g < w.heap.size)→varsOk S w→(∀ (k:Nat) (a:AV) (x:Value),args[k]?=some a→vals[k]?=some x→VRel S κ (Dm []) w a x)→Calls zP f vals w (Ab.Left S κ [] [] r w)):CallOK zP (single f zOrc):=by
 intro g args ms r ms' h; unfold single at h; split at h
 case isFalse=>cases h
 rename_i hg; subst hg
 cases ms with
 | cons a m=>have:zOrc g args (a :: m)=none:=rfl; rw [this] at h; cases h
 | nil=>rw [hz] at h; obtain ⟨rfl,h2⟩:=H args r ms' h; exact ⟨he,fun w S κ vals hvl hS hk hv _ _=>h2 w S κ vals hvl hS hk hv⟩
theorem leftP {S S':Nat→Prop} {κ:Kap} {w w':World} {r:AV} {x:Value} (hb:Below w.heap.size w w') (hS:∀ g,S g→g < w.heap.size) (h1:∀ g,S g→S' g) (h2:∀ g,S' g→S g∨w.heap.size≤g) (h3:∀ g,S' g→g < w'.heap.size)
  (hr:RRel S' κ (Dm []) (Mine w κ (Dm [])) w' r x):Ab.Left S κ [] [] r w (.returned x) w':=
 ⟨x,S',κ,rfl,hb.os,hb.tape,⟨hb.output,fun d=>d.elim⟩,hb.size,fun g hg _=>hb.block g hg,h1,fun g hg=>(h2 g hg).imp id (fun q=>.inl q),h3,fun _ _=>rfl,fun b g c _ hd=>by simp [Dm,Ab.look] at hd,fun b b' g c c' hd=>by simp [Dm,Ab.look] at hd,fun b ent hb=>by simp [Ab.look] at hb,hr⟩
theorem leftF {S:Nat→Prop} {κ:Kap} {w w':World} {r:AV} {x:Value} (hb:Below w.heap.size w w') (hS:∀ g,S g→g < w.heap.size)
  (hr:RRel S κ (Dm []) (Mine w κ (Dm [])) w' r x):Ab.Left S κ [] [] r w (.returned x) w':=
 leftP hb hS (fun _ h=>h) (fun _ h=>.inl h) (fun g h=>Nat.lt_of_lt_of_le (hS g h) hb.size) hr
theorem one1 {a:AV} {vals:Array Value} (h:vals.size=[a].length):∃ v,vals=#[v]:=by
 rcases vals with ⟨vs⟩
 match vs,h with
 | [v],_=>exact ⟨v,rfl⟩
theorem two2 {a b:AV} {vals:Array Value} (h:vals.size=[a,b].length):∃ v u,vals=#[v,u]:=by
 rcases vals with ⟨vs⟩
 match vs,h with
 | [v,u],_=>exact ⟨v,u,rfl⟩
theorem itoa_ok:CallOK zP (single zch zOrc):=by
 refine ora (o:=oItoa) (fun args=>by unfold zOrc; simp (decide:=true) only [if_false,if_true]) (by kernel_rfl) (fun args r ms' h=>?_); unfold oItoa at h; split at h
 case h_2=>cases h
 rename_i n; split at h
 case isFalse=>cases h
 rename_i hn; injection h with h; injection h with h1 h2; subst h1 h2; refine ⟨rfl,fun w S κ vals hvl hS hk hv=>?_⟩; obtain ⟨v,rfl⟩:=one1 hvl; obtain rfl:=(hv 0 _ v rfl rfl).v_inv; refine (Any.strconv_Itoa layItoa n hn.1 hn.2 w hk.2.2.2).mono ?_
 rintro e w' ⟨rfl,k,os,rfl⟩
 exact leftF (Lib.below_grow _ w (Nat.le_refl _) k os) hS (.v _)
theorem pre_ok:CallOK zP (single zcV zOrc):=by
 refine ora (o:=oPre) (fun args=>by unfold zOrc; simp (decide:=true) only [if_false,if_true]) (by kernel_rfl) (fun args r ms' h=>?_); unfold oPre at h; split at h
 case h_2=>cases h
 rename_i s p; injection h with h; injection h with h1 h2; subst h1 h2; refine ⟨rfl,fun w S κ vals hvl hS hk hv=>?_⟩; obtain ⟨v,u,rfl⟩:=two2 hvl; obtain rfl:=(hv 0 _ v rfl rfl).v_inv; obtain rfl:=(hv 1 _ u rfl rfl).v_inv; refine (Any.strings_CutPrefix layPre s p w).mono ?_
 rintro e w' ⟨rfl,rfl⟩
 refine leftF (Below.refl _ _) hS (.tup _ _ rfl fun j c x hj hx=>?_)
 match j,hj,hx with
 | 0,hj,hx=>injection hj with hj; injection hx with hx; subst hj; subst hx; exact .v _
 | 1,hj,hx=>injection hj with hj; injection hx with hx; subst hj; subst hx; exact .v _
 | j+2,hj,hx=>simp at hj
theorem cut_ok:CallOK zP (single zfI zOrc):=by
 refine ora (o:=oCut) (fun args=>by unfold zOrc; simp (decide:=true) only [if_false,if_true]) (by kernel_rfl) (fun args r ms' h=>?_); unfold oCut at h; split at h
 case h_2=>cases h
 rename_i s p; split at h
 case isFalse=>cases h
 rename_i hs; injection h with h; injection h with h1 h2; subst h1 h2; refine ⟨rfl,fun w S κ vals hvl hS hk hv=>?_⟩; obtain ⟨v,u,rfl⟩:=two2 hvl; obtain rfl:=(hv 0 _ v rfl rfl).v_inv; obtain rfl:=(hv 1 _ u rfl rfl).v_inv; obtain ⟨m,hm⟩:=hk.2.1.2; refine (Any.strings_Cut layCut s p m w hs hm).mono ?_
 rintro e w' ⟨rfl,n,rfl⟩
 refine leftF ⟨rfl,rfl,rfl,Nat.le_refl _,fun _ _=>rfl⟩ hS (.tup _ _ rfl fun j c x hj hx=>?_)
 match j,hj,hx with
 | 0,hj,hx=>injection hj with hj; injection hx with hx; subst hj; subst hx; exact .v _
 | 1,hj,hx=>injection hj with hj; injection hx with hx; subst hj; subst hx; exact .v _
 | 2,hj,hx=>injection hj with hj; injection hx with hx; subst hj; subst hx; exact .v _
 | j+3,hj,hx=>simp at hj
theorem split_ok:CallOK zP (single zde zOrc):=by
 refine ora (o:=oSplit) (fun args=>by unfold zOrc; simp (decide:=true) only [if_false,if_true]) (by kernel_rfl) (fun args r ms' h=>?_); unfold oSplit at h; split at h
 case h_2=>cases h
 rename_i s p; split at h
 case isFalse=>cases h
 rename_i hs; injection h with h; injection h with h1 h2; subst h1 h2; refine ⟨rfl,fun w S κ vals hvl hS hk hv=>?_⟩; obtain ⟨v,u,rfl⟩:=two2 hvl; obtain rfl:=(hv 0 _ v rfl rfl).v_inv; obtain rfl:=(hv 1 _ u rfl rfl).v_inv; obtain ⟨m,hm⟩:=hk.2.1.2; refine (Any.strings_Split { zmk with } zmk.i9 s p m w hs.1 hm hs.2).mono ?_
 rintro e w' ⟨rfl,rfl⟩
 have hl:(Lib.splitB p 0 (Lib.countB s p) s).length=Lib.countB s p+1:=Lib.splitB_all p hs.2 0 _ s rfl; generalize hws:Lib.splitB p 0 (Lib.countB s p) s=ws at hl ⊢
 have hg:(w.alloc (.cells (ws.map Value.string).toArray (zia.t 9))).heap[w.heap.size]?=some (.cells (ws.map Value.string).toArray (zia.t 9) (0,0)):=by show (w.heap.push _)[w.heap.size]?=_; rw [Array.getElem?_push,if_pos rfl]
 refine leftF ((Below.refl _ w).alloc (Nat.le_refl _) _) hS ⟨by decide,.inr ⟨w.heap.size,Lib.countB s p+1,.inl (Nat.le_refl _),by rw [List.length_map,hl],EntAt.of (.inr Nat.one_pos) ⟨?_,_,hg,?_,?_,?_,fun h=>by have:=hS _ h; omega,?_⟩⟩⟩
 · intro cs hcs; obtain ⟨x,_,rfl⟩:=List.mem_map.1 hcs; rfl
 · simp [hl]
 · simp [hl]
 · show Lib.countB s p+1≤maxLen; have:=Lib.countB_le p hs.2 _ s (Nat.le_refl _); unfold maxLen; omega
 · intro i j cs a hi hj; rw [List.getElem?_map] at hi
   cases hx:ws[i]? with
   | none=>rw [hx] at hi; cases hi
   | some x =>
     rw [hx] at hi; injection hi with hi; subst hi
     match j,hj with
     | 0,hj=>injection hj with hj; subst hj; exact ⟨.string x,by simp [hx],rfl,fun h=>by (cases h),fun _=>CRel.v _⟩
     | j+1,hj=>simp at hj
theorem strsOf_get:∀ {es:List (List AV)} {ws:List ByteArray},strsOf es=some ws→es=ws.map fun s=>[.v (.string s)]:=by
 intro es
 fun_induction strsOf es with
 | case1=>intro ws h; injection h with h; subst h; rfl
 | case2 s r ih=>intro ws h; obtain ⟨wr,h1,rfl⟩:=Option.map_eq_some_iff.1 h; rw [ih h1]; rfl
 | case3=>intro ws h; cases h
theorem bx:Builder.Extra zP zlB where
 sizeBuilder:=by kernel_rfl
 liesBuilder:=by kernel_rfl
 t5:=Tryd.underlying5
 a5:=Tryd.isAgg5
 z5:=Tryd.sizeOf5
 v5:=Tryd.zeroValue5
 infoByte:=by kernel_rfl
 cellsByte:=by kernel_rfl
 sizeByte:=by kernel_rfl
 neB5:=by decide
theorem join_ok:CallOK zP (single zcM zOrc):=by
 refine ora (o:=oJoin) (fun args=>by unfold zOrc; simp (decide:=true) only [if_false,if_true]) (by kernel_rfl) (fun args r ms' h=>?_); unfold oJoin at h; split at h
 case h_2=>cases h
 rename_i es p; split at h
 case h_2=>cases h
 rename_i ws hws; split at h
 case isFalse=>cases h
 rename_i hs; injection h with h; injection h with h1 h2; subst h1 h2; refine ⟨rfl,fun w S κ vals hvl hS hk hv=>?_⟩; obtain ⟨v,u,rfl⟩:=two2 hvl; obtain rfl:=(hv 1 _ u rfl rfl).v_inv; have hv0:=(hv 0 _ v rfl rfl).sl_inv; have he:=strsOf_get hws; subst he
 cases hv0 with
 | sl _ _ A len cap q hlen hcap hz ha hr =>
   rw [List.length_map] at hlen; subst hlen
   have hemp:ws=[]→Calls zP zcM #[.slice A ws.length cap,.string p] w (Ab.Left S κ [] [] (.v (.string (tx (Lib.join (ws.map (·.data.toList)) p.data.toList)))) w):=fun h0=>by
    subst h0; refine (Any.strings_Join_none layJoin bx A cap p w).mono ?_
    rintro e w' ⟨rfl,rfl⟩
    exact leftF (Below.refl _ _) hS (.v _)
   rcases ha with h0 | ⟨a,rfl,hSa,hc⟩
   · exact hemp (by simpa using h0)
   · by_cases hne:ws=[]
     · exact hemp hne
     have hcell:∀ (j:Nat) (x:ByteArray),ws[j]?=some x→w.cell? (a.add j)=some (.string x):=fun j x hx=>by
      have hj:(ws.map fun s=>([.v (.string s)]:List AV))[j]?=some [.v (.string x)]:=by rw [List.getElem?_map,hx]; rfl
      have h1:=(hc j 0 _ _ hj rfl).1; have h2:q j 0=.string x:=(VRel.c (κ:=κ) (D:=Dm []) (hr j 0 _ _ hj rfl)).v_inv; rw [h2] at h1; simpa using h1
     obtain ⟨bk,o,sp⟩:=a
     have hsp:sp=none:=by
      obtain ⟨x,hx⟩:∃ x,ws[0]?=some x:=⟨_,List.getElem?_eq_getElem (by cases ws with | nil=>exact absurd rfl hne | cons _ _=>simp)⟩
      have:=hcell 0 x hx; unfold Addr.add at this; rw [if_pos rfl] at this; unfold World.cell? at this
      cases sp with
      | none=>rfl
      | some q=>split at this <;> simp at this
     subst hsp; refine (Any.strings_Join layJoin bx bk o cap ws p w (fun j x hx=>?_) (hS _ hSa) (by omega) hcap hs.2).mono ?_
     · rw [← hcell j x hx,add_at]
     · rintro e w' ⟨rfl,hb⟩
       exact leftF hb hS (.v _)
end Go.Proofs.YtdclabgakicjeaaDoor
namespace Go.Proofs.YtdclabgakicjeaaDoor
open Go.Ab Go.Str
set_option maxRecDepth 20000
theorem lt12' {w:Nat} (h:w < 12):w=0∨w=1∨w=2∨w=3∨w=4∨w=5∨w=6∨w=7∨w=8∨w=9∨w=10∨w=11:=by omega
theorem c_Itoa {n:Int} (h:W64 n):cw zch [I n] []=some (zbu (tx (Lib.itoa n))):=
 zf9 itoa_ok (by
  show oItoa [I n]=_; unfold oItoa; dsimp only; rw [if_pos (show _∧_ from h)]
  rfl)
theorem tx_lists (ws:List ByteArray):(ws.map (·.data.toList)).map tx=ws:=by rw [List.map_map]; exact (List.map_congr_left fun x _=>tx_of x).trans (List.map_id' ws)
theorem c_Split {l:List UInt8} {c:UInt8} (h:l.length < 4294967281):cw zde [.v (.string (tx l)),.v (.string (tx [c]))] []=some (zgv ((splitC c l).map tx)):=by
 have e:Lib.splitB (tx [c]) 0 (Lib.countB (tx l) (tx [c])) (tx l)=(splitC c l).map tx:=by
  have h1:=Lib.splitB_data (tx [c]) 0 (Lib.countB (tx l) (tx [c])) (tx l); rw [zc7,zc7] at h1
  have h2:Lib.splitK [c] 0 (Lib.countB (tx l) (tx [c])) l=splitC c l:=by rw [← split_eq c _ l (Nat.le_refl _)]; unfold Lib.split Lib.countB; rw [zc7,zc7]
  rw [h2] at h1; rw [← h1,tx_lists]
 refine zf9 split_ok ?_; show oSplit [.v (.string (tx l)),.v (.string (tx [c]))]=_; unfold oSplit; dsimp only; rw [if_pos ⟨by rw [zbi]; exact h,by rw [zbi]; simp⟩,e]; rfl
theorem c_Cut {l:List UInt8} {c:UInt8} (h:l.length < 4294967281):cw zfI [.v (.string (tx l)),.v (.string (tx [c]))] []=some (zhw (tx (Lib.cut l [c]).1,tx (Lib.cut l [c]).2.1,(Lib.cut l [c]).2.2)):=by refine zf9 cut_ok ?_; show oCut [.v (.string (tx l)),.v (.string (tx [c]))]=_; unfold oCut; dsimp only; rw [if_pos (by rw [zbi]; exact h),zc7,zc7]; rfl
theorem c_Pre (l p:List UInt8):cw zcV [.v (.string (tx l)),.v (.string (tx p))] []=some (zbj (tx (Lib.trimPrefix l p),Lib.hasPrefix l p)):=by refine zf9 pre_ok ?_; show oPre [.v (.string (tx l)),.v (.string (tx p))]=_; unfold oPre; dsimp only; rw [zc7,zc7]; rfl
theorem zm4:∀ ws:List (List UInt8),strsOf (List.map nStr (ws.map tx))=some (ws.map tx)
 | []=>rfl
 | w :: r=>by show (strsOf (List.map nStr (r.map tx))).map _=_; rw [zm4 r]; rfl
theorem c_Join {ws:List (List UInt8)} {p:List UInt8} (h1:ws.length≤1000000000) (h2:(Lib.join ws p).length≤140737488355328):cw zcM [.sl 1 (List.map nStr (ws.map tx)),.v (.string (tx p))] []=some (zbu (tx (Lib.join ws p))):=by
 have e:((ws.map tx).map (·.data.toList))=ws:=by rw [List.map_map]; exact (List.map_congr_left fun x _=>zc7 x).trans (List.map_id' ws)
 refine zf9 join_ok ?_; show oJoin [.sl 1 (List.map nStr (ws.map tx)),.v (.string (tx p))]=_; unfold oJoin; simp only [zm4]; rw [e,zc7,if_pos ⟨by simpa using h1,h2⟩]; rfl
theorem c_fits (n:Int):cw zfd [I n] []=some (zay (decide (fits n))):=by
 refine zng n ?_; rw [zkU]
 have:decide (fits n)=(decide (-999999999999999999≤n) && decide (n≤999999999999999999)):=by rw [← Bool.decide_and]; exact decide_eq_decide.2 (by unfold fits; omega)
 rw [this]; split <;> rename_i h
 · rw [h]; rfl
 · rw [Bool.not_eq_true] at h; rw [h]; rfl
theorem zkV (a b:List Int) (ha:a.length < 1000000000):cw zbq [.sl 1 (List.map zai a),.sl 1 (List.map zai b)] []=some (zay (decide (a=b))):=by
 refine ziJ a b ?_; rw [zkU]; simp only [List.length_map,bne_iff_ne,ne_eq]; split
 · rename_i h; rw [decide_eq_false (fun e=>h (by rw [e]))]; rfl
 · rename_i h; have hl:a.length=b.length:=by omega
   refine zdX a (fun i r=>zb3 a b (i:Nat)=some (zay (decide (r=b.drop i)))) ?_ ?_ |>.trans (by rw [List.drop_zero])
   · refine ze6 a b _ ?_; rw [zaA (by simp)]; rw [hl,List.drop_length]; rfl
   · intro i x r hi hx hr ih; refine ze6 a b _ ?_; have hib:i < b.length:=by omega
     rw [zax (by simp; omega),cPQ,zcI,show ((i:Nat):Int).toNat=i from rfl,List.getElem?_eq_getElem hi,Option.bind_some,cPQ,zcI,List.getElem?_eq_getElem hib,Option.bind_some,zkU,hx]; by_cases he:x=b[i]
     · have e2:decide (x :: r=b.drop i)=decide (r=b.drop (i+1)):=by rw [List.drop_eq_getElem_cons hib]; exact decide_eq_decide.2 (by rw [List.cons.injEq]; exact ⟨fun h=>h.2,fun h=>⟨he,h⟩⟩)
       rw [if_neg (by simp [he]),w6Q,show ((i:Nat):Int)+1=((i+1:Nat):Int) by omega,ih,e2]
     · rw [if_pos (by simpa using he),decide_eq_false (fun q=>by rw [List.drop_eq_getElem_cons hib,List.cons.injEq] at q; exact he q.1)]; rfl
theorem zkT (b c:Bool):brn b (some (B c,([]:Mem))) (some (B false,[]))=some (B (b && c),[]):=by cases b <;> rfl
theorem c_same (a b:GOp) (h1:a.Bounds.length < 1000000000) (h2:a.Script.Pages.length < 1000000000) (h3:a.Script.Answers.length < 1000000000) (h4:a.Event.Pages.length < 1000000000):cw zgS [.agg (nGOp a),.agg (nGOp b)] []=some (zay (decide (a=b))):=by
 refine znh a b ?_; rw [zkV _ _ h1,zkV _ _ h2,zkV _ _ h3,zkV _ _ h4]; simp only [zaE,zkT]; obtain ⟨k,⟨e1,e2,e3⟩,⟨s1,s2,s3,s4,s5,s6,s7⟩,⟨⟨v1,v2,v3⟩,v4,v5,v6,v7,v8,v9⟩,⟨p1,p2⟩,⟨⟨a1,a2,a3⟩,a4,a5,a6⟩,bs,t,n⟩:=a; obtain ⟨k',⟨e1',e2',e3'⟩,⟨s1',s2',s3',s4',s5',s6',s7'⟩,⟨⟨v1',v2',v3'⟩,v4',v5',v6',v7',v8',v9'⟩,⟨p1',p2'⟩,⟨⟨a1',a2',a3'⟩,a4',a5',a6'⟩,bs',t',n'⟩:=b; refine congrArg (fun b=>some (B b,([]:Mem))) ?_; rw [Bool.eq_iff_iff]; simp only [Bool.and_eq_true,beq_iff_eq,decide_eq_true_eq,and_true,GOp.mk.injEq,zft.mk.injEq,zap.mk.injEq,zaz.mk.injEq,zcN.mk.injEq,zdt.mk.injEq,zeq.mk.injEq]
 grind
theorem zks (l:List (Option Addr)) (hl:l.length < 1000000):cw za5 [.sl 1 (List.map nPtr l)] []=some (zbG (l.map fun p=>(⟨p,none⟩:zaw))):=by
 refine zle l ?_; refine zdX l (fun i r=>∀ x:List zaw,x.length≤i→zcW l (List.map zae x) (i:Nat)=some (zbG (x++r.map fun p=>(⟨p,none⟩:zaw)))) ?_ ?_ [] (Nat.le_refl _)
 · intro x hx; refine zgL l _ _ ?_; rw [zaA (by simp),zao rfl]; simp only [List.map_nil,List.append_nil]; rfl
 · intro i p r hi hp hr ih x hx; refine zgL l _ _ ?_; rw [zax (by simp; omega),cPQ,elemD_Ptr,show ((i:Nat):Int).toNat=i from rfl,List.getElem?_eq_getElem hi,Option.bind_some,zao rfl,zao (by simp; omega),zao rfl,w6Q,hp]; have:=ih (x++[⟨p,none⟩]) (by simp; omega); rw [List.map_append] at this; rw [show ((i:Nat):Int)+1=((i+1:Nat):Int) by omega]; refine this.trans ?_; simp
theorem c_stampOf (g n:Nat) (l:List (Option Addr)) (hl:l.length < 1000):cw zbr [.v (.pointer (some ⟨g,n,none⟩)),.sl 1 (List.map nPtr l)] [] =
  some (zbG ((some ⟨g,n+0,none⟩ :: some ⟨g,n+1,none⟩ :: some ⟨g,n+2,none⟩ :: l:List (Option Addr)).map fun p=>(⟨p,none⟩:zaw))):=by
 refine zlg g n l ?_; rw [zks _ (by simp),zbe,zks l (by omega),zbe,zao (by simp),zao rfl,zao (by simp; omega),zao rfl,zao rfl,List.take_length,← List.map_append,← List.map_append]; rfl
def slotsS (w g:Nat):List zaw:=(slotsC w).map fun p=>if p.1 then ⟨none,some ⟨g,p.2,none⟩⟩ else ⟨some ⟨g,p.2,none⟩,none⟩
theorem n0:((0:Nat):Int)=0:=rfl
theorem n1:((1:Nat):Int)=1:=rfl
theorem n2:((2:Nat):Int)=2:=rfl
theorem n3:((3:Nat):Int)=3:=rfl
theorem n4:((4:Nat):Int)=4:=rfl
theorem n5:((5:Nat):Int)=5:=rfl
theorem n6:((6:Nat):Int)=6:=rfl
theorem n7:((7:Nat):Int)=7:=rfl
theorem n8:((8:Nat):Int)=8:=rfl
theorem n9:((9:Nat):Int)=9:=rfl
theorem n10:((10:Nat):Int)=10:=rfl
theorem n11:((11:Nat):Int)=11:=rfl
theorem zkt {w:Nat} (g:Nat) (hw:w < 12):cw zcC [I w,.v (.pointer (some ⟨g,0,none⟩))] []=some (zbG (slotsS w g)):=by
 have hn:∀ l:List (Option Addr),l.length < 1000000→cw za5 [.sl 1 (List.map nPtr l)] []=some (zbG (l.map fun p=>(⟨p,none⟩:zaw))):=zks; have hs:∀ (g n:Nat) (l:List (Option Addr)),l.length < 1000→cw zbr [.v (.pointer (some ⟨g,n,none⟩)),.sl 1 (List.map nPtr l)] []=_:=c_stampOf; rcases lt12' hw with rfl | rfl | rfl | rfl | rfl | rfl | rfl | rfl | rfl | rfl | rfl | rfl
 all_goals
  refine zlf _ g ?_; simp only [n0,n1,n2,n3,n4,n5,n6,n7,n8,n9,n10,n11,Int.reduceBEq,zaD,zat,hn,hs,List.length_cons,List.length_nil,Nat.reduceAdd,Nat.reduceLT,zbe,zbe]
  first
   | (repeat rw [zao (by first | trivial | rfl | (simp; done) | omega)]
      rfl)
   | (refine ziT _ g ?_
      simp only [hn,List.length_cons,List.length_nil,Nat.reduceAdd,Nat.reduceLT,zbe]
      repeat rw [zao (by first | trivial | rfl | (simp; done) | omega)]
      rfl)
theorem c_blank {w:Nat} (hw:w < 12):cw zdb [I w] []=some (zgt (blankS w)):=by refine zmE w ?_; rcases lt12' hw with rfl | rfl | rfl | rfl | rfl | rfl | rfl | rfl | rfl | rfl | rfl | rfl <;> rfl
theorem zoT {w:Nat} (hw:w < 12) (o:GOp):isForm o w=(o.Kind == (blankS w).Kind && ((o.Kind != 2) == true || (o.Event.Kind == (blankS w).Event.Kind)) && ((o.Kind != 4) == true || o.Appeal.Kind == (blankS w).Appeal.Kind)):=by
 unfold isForm; rw [Bool.eq_iff_iff]; simp
 grind
theorem c_formOf (o:GOp):cw zfP [.agg (nGOp o)] []=some (zea (zbo o)):=by
 refine zl9 o ?_
 have key:∀ (k i:Nat),i+k=12→zbA o (i:Nat)=some (zea ((((List.range' i k).find? (isForm o)).getD 12:Nat):Int)):=by
  intro k
  induction k with
  | zero=>intro i hi; refine zhj o _ ?_; rw [zaA (by omega)]; rfl
  | succ k ih =>
    intro i hi; refine zhj o _ ?_; have h12:i < 12:=by omega
    rw [zax (by omega),c_blank h12,zez,w6Q,show ((i:Nat):Int)+1=((i+1:Nat):Int) by omega,ih (i+1) (by omega),List.range'_succ,List.find?_cons]; simp only [zkU]; have hk:=zoT h12 o
    cases hf:isForm o i with
    | true =>
      rw [hf] at hk; simp only [Option.getD_some]; simp at hk
      repeat' split
      all_goals first | rfl | (exfalso; simp_all; done) | (exfalso; grind)
    | false =>
      rw [hf] at hk; simp only [Nat.add_one]
      repeat' split
      all_goals first | rfl | (exfalso; simp_all; done) | (exfalso; grind)
 have:=key 12 0 rfl
 rwa [← List.range_eq_range'] at this
end Go.Proofs.YtdclabgakicjeaaDoor
namespace Go.Proofs.YtdclabgakicjeaaDoor
open Go.Ab Go.Str
set_option maxRecDepth 20000
theorem u8_id {n:Int} (h1:0≤n) (h2:n < 256):IntKind.wrap .u8 n=n:=by simp only [IntKind.wrap,IntKind.bits,IntKind.signed,show ((2:Int) ^ 8)=256 from rfl,Bool.false_and,Bool.false_eq_true,if_false]; omega
theorem zgU {k:Nat} (c:UInt8):∀ (ws:List (List UInt8)),(∀ w∈ws,w.length≤k)→(Lib.join ws [c]).length≤(k+1)*ws.length
 | [],_=>by simp [Lib.join_nil]
 | [w],h=>by rw [Lib.join_one]; have:=h w (by simp); simp; omega
 | w :: v :: r,h=>by
   have e:Lib.join (w :: v :: r) [c]=w++c :: Lib.join (v :: r) [c]:=by simp [Lib.join,List.intercalate,List.intersperse]
   have ih:=zgU c (v :: r) (fun x hx=>h x (by simp [hx])); have:=h w (by simp); rw [e]; simp only [List.length_append,List.length_cons] at ih ⊢; rw [Nat.mul_add,Nat.mul_add] at *; omega
theorem zeZ {n:Int} (h:W64 n):(Lib.itoa n).length≤20:=by
 unfold Lib.itoa; obtain ⟨h1,h2⟩:=h; split
 · rw [List.length_cons,zjx]; have:=zjD (u:=n.natAbs) (k:=19) (by show _ < 10000000000000000000; omega) (by omega); omega
 · rw [zjx]; have:=zjD (u:=n.toNat) (k:=19) (by show _ < 10000000000000000000; omega) (by omega); omega
theorem c_listText (l:List Int) (hl:l.length≤1000) (hw:∀ n∈l,W64 n):∃ s,cw zeR [.sl 1 (List.map zai l)] []=some (zbj (s,decide (l.length≤300∧∀ n∈l,fits n)))∧((l.length≤300∧∀ n∈l,fits n)→s=tx (wordL l)):=by
 by_cases h0:l=[]
 · subst h0; exact ⟨_,zda [] rfl,fun _=>rfl⟩
 by_cases h3:300 < l.length
 · refine ⟨tx [],zda l ?_,fun h=>by omega⟩; have hb:(((List.map zai l).length:Int) == 0)=false:=by rw [beq_eq_false_iff_ne,List.length_map]; omega
   rw [hb,zat,zax (by rw [List.length_map]; omega),decide_eq_false (by omega)]; rfl
 · have key:∀ ws:List (List UInt8),ws.length≤0→(∀ w∈ws,w.length≤20)→zb1 l (List.map nStr (ws.map tx)) (0:Nat)=some (zbj (if ∀ n∈l,fits n then (tx (Lib.join (ws++l.map Lib.itoa) [44]),true) else (tx [],false))):=by
    refine zdX l (fun i r=>∀ ws:List (List UInt8),ws.length≤i→(∀ w∈ws,w.length≤20)→zb1 l (List.map nStr (ws.map tx)) (i:Nat)=some (zbj (if ∀ n∈r,fits n then (tx (Lib.join (ws++r.map Lib.itoa) [44]),true) else (tx [],false)))) ?_ ?_
    · intro ws h1 h2; refine zgy l _ _ ?_; have hj:=zgU 44 ws h2; rw [zaA (by rw [List.length_map]; omega),cPQ,List.take_length,show (zfZ:ByteArray)=tx [44] from rfl,c_Join (by omega) (by omega),za4]; simp; rfl
    · intro i x r hi hx hr ih ws h1 h2; have hxw:W64 x:=hw x (by rw [← hx]; exact List.getElem_mem hi); refine zgy l _ _ ?_; rw [zax (by rw [List.length_map]; omega),cPQ,zcI,show ((i:Nat):Int).toNat=i from rfl,List.getElem?_eq_getElem hi,Option.bind_some,hx,c_fits,zaE]; by_cases hf:fits x
      · rw [decide_eq_true hf,Bool.not_true,zat,c_Itoa hxw,za4,zao rfl,zao (by simp; omega),zao rfl,w6Q,show ((i:Nat):Int)+1=((i+1:Nat):Int) by omega]; have e:List.map nStr (ws.map tx)++[nStr (tx (Lib.itoa x))]=List.map nStr ((ws++[Lib.itoa x]).map tx):=by simp
        rw [e,ih (ws++[Lib.itoa x]) (by simp; omega) (fun w hm=>by
         rcases List.mem_append.1 hm with hm | hm
         · exact h2 w hm
         · rw [List.mem_singleton.1 hm]; exact zeZ hxw)]
        simp [hf]
      · rw [decide_eq_false hf,Bool.not_false,zaD,if_neg (fun q=>hf (q x (by simp)))]; rfl
   have hk:=key [] (Nat.le_refl _) (by simp)
   have hb:(((List.map zai l).length:Int) == 0)=false:=by
    rw [beq_eq_false_iff_ne,List.length_map]; have:l.length≠0:=fun e=>h0 (List.eq_nil_of_length_eq_zero e)
    omega
   by_cases hf:∀ n∈l,fits n
   · rw [if_pos hf] at hk; refine ⟨tx (wordL l),zda l ?_,fun _=>rfl⟩; rw [hb,zat,zaA (by rw [List.length_map]; omega),decide_eq_true (by exact ⟨by omega,hf⟩)]; refine hk.trans ?_; unfold wordL; rw [if_neg h0]; rfl
   · rw [if_neg hf] at hk; refine ⟨tx [],zda l ?_,fun q=>absurd q.2 hf⟩; rw [hb,zat,zaA (by rw [List.length_map]; omega),decide_eq_false (fun q=>hf q.2)]; exact hk
theorem c_textN {n:Int} (h:W64 n):cw zbL [.agg [.fp [I n],.v (.pointer none)]] []=some (zbj (tx (Lib.itoa n),decide (fits n))):=by refine zkc n ?_; rw [c_Itoa h,za4,c_fits,zaE]; rfl
theorem c_textL (l:List Int) (hl:l.length≤1000) (hw:∀ n∈l,W64 n):∃ s,cw zbL [.agg [.v (.pointer none),.fp [.sl 1 (List.map zai l)]]] []=some (zbj (s,decide (l.length≤300∧∀ n∈l,fits n)))∧((l.length≤300∧∀ n∈l,fits n)→s=tx (wordL l)):=by obtain ⟨s,h1,h2⟩:=c_listText l hl hw; refine ⟨s,zi7 l ?_,h2⟩; rw [h1,zb9]; rfl
theorem strAt_tx {l:List UInt8} {i:Nat} (h:i < l.length):strAt (tx l) (i:Nat)=(l[i].toNat:Int):=by
 unfold strAt
 have:(tx l)[i]?=some l[i]:=by show (tx l).data[i]?=_; simp [tx,h]
 rw [show ((i:Nat):Int).toNat=i from rfl,this]; rfl
theorem c_numLoop (ds:List UInt8) (neg:Bool) (hl:ds.length≤18):za8 (tx ds,neg) 0 0=some (zbC (if ds.all isDig=true then (if neg then -(val 0 ds:Int) else val 0 ds,true) else (0,false))):=by
 have key:∀ v:Nat,v < 10 ^ 0→za8 (tx ds,neg) (v:Nat) (0:Nat)=some (zbC (if ds.all isDig=true then (if neg then -(val v ds:Int) else val v ds,true) else (0,false))):=by
  refine zdX ds (fun i r=>∀ v:Nat,v < 10 ^ i→za8 (tx ds,neg) (v:Nat) (i:Nat)=some (zbC (if r.all isDig=true then (if neg then -(val v r:Int) else val v r,true) else (0,false)))) ?_ ?_
  · intro v hv; have hv2:v < 1000000000000000000:=Nat.lt_of_lt_of_le hv (Nat.le_trans (Nat.pow_le_pow_right (by omega) hl) (by decide)); refine zgz _ _ _ ?_; rw [zaA (by rw [zbi]; omega)]
    cases neg with
    | true=>rw [zaD,w6Q]; simp [val]; rfl
    | false=>rw [zat]; simp [val]; rfl
  · intro i d r hi hd hr ih v hv; have hv2:v < 100000000000000000:=Nat.lt_of_lt_of_le hv (Nat.le_trans (Nat.pow_le_pow_right (by omega) (show i≤17 by omega)) (by decide)); refine zgz _ _ _ ?_; have hsz:((i:Nat):Int) < ((tx ds).size:Int):=by rw [zbi]; omega
    have hst:=strAt_tx hi; rw [hd] at hst; rw [zax hsz,cPQ,zao hsz,hst]; by_cases h1:d.toNat < 48
    · rw [zax (by omega),if_neg (by simp [isDig]; omega)]; rfl
    · rw [zaA (by omega),cPQ,zao hsz]; by_cases h2:57 < d.toNat
      · rw [zax (by omega),if_neg (by simp [isDig]; omega)]; rfl
      · rw [zaA (by omega),cPQ,zao hsz,u8_id (by omega) (by omega),w6Q (n:=(v:Int)*10),w6Q (n:=(d.toNat:Int) - 48),w6Q,w6Q (n:=(i:Int)+1)]; have:=ih (10*v+(d.toNat - 48)) (by rw [Nat.pow_succ]; omega); rw [show ((v:Nat):Int)*10+((d.toNat:Int) - 48)=((10*v+(d.toNat - 48):Nat):Int) by omega,show ((i:Nat):Int)+1=((i+1:Nat):Int) by omega,this]; have hdg:isDig d=true:=by simp [isDig]; omega
        simp only [List.all_cons,hdg,Bool.true_and]; rfl
 exact key 0 (by decide)
def numR (l:List UInt8):Int×Bool:=match numS l with
 | some n=>(n,true)
 | none=>(0,false)
theorem c_numW (ds:List UInt8) (neg:Bool) {y:AV×Mem} (hy:some y=some (zbC (match numW neg ds with | some n=>(n,true) | none=>(0,false)))):(brn (decide (((tx ds).size:Int) < 1)) (some (AV.tup [I 0,B false],[])) (brn (decide (18 < ((tx ds).size:Int))) (some (AV.tup [I 0,B false],[]))
  (chk ((0:Int)≤0)<|chk ((0:Int) < ((tx ds).size:Int))<|
   brn (strAt (tx ds) 0 == 48) (brn neg (some (AV.tup [I 0,B false],[])) (brn (decide (1 < ((tx ds).size:Int))) (some (AV.tup [I 0,B false],[])) (za8 (tx ds,neg) 0 0))) (za8 (tx ds,neg) 0 0))))=some y:=by
 rw [hy,zbi]; unfold numW; by_cases h1:ds.length < 1
 · rw [zax (by omega),if_pos (.inl h1)]; rfl
 by_cases h2:18 < ds.length
 · rw [zaA (by omega),zax (by omega),if_pos (.inr (.inl h2))]; rfl
 rw [zaA (by omega),zaA (by omega),cPQ,cPQ]; have h0:0 < ds.length:=by omega
 have hst:strAt (tx ds) 0=(ds[0].toNat:Int):=strAt_tx h0; have hhd:ds.head?=some ds[0]:=by cases ds with | nil=>simp at h0 | cons _ _=>rfl
 rw [hst,c_numLoop ds neg (by omega),hhd]; have h48:ds[0]=48↔ds[0].toNat=48:=⟨fun e=>by rw [e]; rfl,fun e=>UInt8.toNat_inj.1 (e.trans rfl)⟩
 by_cases hz:ds[0]=48
 · have hzn:=h48.1 hz; rw [hzn,show (((48:Nat):Int) == 48)=true from rfl,zaD]
   cases neg with
   | true=>rw [zaD,if_pos (.inr (.inr (.inl ⟨congrArg some hz,.inl rfl⟩)))]; rfl
   | false =>
     rw [zat]; by_cases h3:1 < ds.length
     · rw [zax (by omega),if_pos (.inr (.inr (.inl ⟨congrArg some hz,.inr h3⟩)))]; rfl
     · rw [zaA (by omega)]
       cases hall:ds.all isDig with
       | true =>
         have hc:¬ (ds.length < 1∨18 < ds.length∨(some ds[0]=some 48∧(false=true∨1 < ds.length))∨true=false):=by
          rintro (q | q | ⟨_,q | q⟩ | q)
          · omega
          · omega
          · cases q
          · omega
          · cases q
         rw [if_pos rfl,if_neg hc]
       | false=>rw [iNs,if_pos (.inr (.inr (.inr rfl)))]
 · have hzn:¬ ds[0].toNat=48:=fun e=>hz (h48.2 e)
   rw [show (((ds[0].toNat:Nat):Int) == 48)=false from by rw [beq_eq_false_iff_ne]; omega,zat]
   cases hall:ds.all isDig with
   | true =>
     have hc:¬ (ds.length < 1∨18 < ds.length∨(some ds[0]=some 48∧(neg=true∨1 < ds.length))∨true=false):=by
      rintro (q | q | ⟨q,_⟩ | q)
      · omega
      · omega
      · exact hz (Option.some.inj q)
      · cases q
     rw [if_pos rfl,if_neg hc]
   | false=>rw [iNs,if_pos (.inr (.inr (.inr rfl)))]
theorem zmy (l:List UInt8):cw zdc [.v (.string (tx l))] []=some (zbC (numR l)):=by
 refine zkv (tx l) ?_; rw [show (zf0:ByteArray)=tx [45] from rfl,c_Pre,zb9]
 cases l with
 | nil=>exact c_numW [] false rfl
 | cons d r =>
   by_cases hd:d=45
   · subst hd; have e1:Lib.trimPrefix (45 :: r) [45]=r:=by simp [Lib.trimPrefix,Lib.hasPrefix,List.isPrefixOf]
     have e2:Lib.hasPrefix (45 :: r) [45]=true:=by simp [Lib.hasPrefix,List.isPrefixOf]
     rw [e1,e2]; exact c_numW r true (by simp [numR,numS])
   · have e2:Lib.hasPrefix (d :: r) [45]=false:=by
      have h45:¬ (45:UInt8)=d:=fun e=>hd e.symm
      simp [Lib.hasPrefix,List.isPrefixOf,h45]
     have e1:Lib.trimPrefix (d :: r) [45]=d :: r:=by simp [Lib.trimPrefix,e2]
     rw [e1,e2]; exact c_numW (d :: r) false (by simp [numR,numS,hd])
end Go.Proofs.YtdclabgakicjeaaDoor
namespace Go.Proofs.YtdclabgakicjeaaDoor
open Go.Ab Go.Str
set_option maxRecDepth 100000
def listR (l:List UInt8):List Int×Bool:=match readL l with
 | some n=>(n,true)
 | none=>([],false)
theorem tx_beq (a b:List UInt8):(tx a == tx b)=decide (a=b):=by
 show (a.toArray == b.toArray)=_; by_cases h:a=b
 · subst h; simp
 · simp [h]
theorem zjR (c:UInt8):∀ l:List UInt8,(splitC c l).length≤l.length+1
 | []=>by simp [splitC]
 | b :: r=>by
   have ih:=zjR c r; have hne:=zhi c r; unfold splitC; split
   · simp; omega
   · cases h:splitC c r with
     | nil=>exact absurd h hne
     | cons a t=>rw [h] at ih; simp at ih ⊢; omega
theorem zkK:∀ (ws:List (List UInt8)) (n:List Int),numsS ws=some n→n.length=ws.length
 | [],n,h=>by injection h with h; subst h; rfl
 | w :: r,n,h=>by
   unfold numsS at h
   cases h1:numS w with
   | none=>rw [h1] at h; cases h
   | some a =>
     cases h2:numsS r with
     | none=>rw [h1,h2] at h; cases h
     | some t=>rw [h1,h2] at h; injection h with h; subst h; rw [List.length_cons,List.length_cons,zkK r t h2]
theorem c_listOf (l:List UInt8) (hl:l.length < 4294967281):cw zfQ [.v (.string (tx l))] []=some (zcS (listR l)):=by
 refine zmb (tx l) ?_; unfold listR readL; by_cases h0:l=[45]
 · subst h0; rw [if_pos rfl,show (zey:ByteArray)=tx [45] from rfl,tx_beq,decide_eq_true rfl,zaD]; rfl
 rw [show (zey:ByteArray)=tx [45] from rfl,tx_beq,decide_eq_false h0,zat,if_neg h0,show (zgI:ByteArray)=tx [44] from rfl,c_Split hl,zgJ]; have hsz:(splitC 44 l).length≤l.length+1:=zjR 44 l; generalize splitC 44 l=ws at hsz
 have key:∀ acc:List Int,acc.length=0→0≤300→zco (ws.map tx) (List.map zai acc) (0:Nat)=some (zcS (match numsS ws with | some n=>if 0+n.length≤300 then (acc++n,true) else ([],false) | none=>([],false))):=by
  refine zdX ws (fun i r=>∀ acc:List Int,acc.length=i→i≤300→zco (ws.map tx) (List.map zai acc) (i:Nat)=some (zcS (match numsS r with | some n=>if i+n.length≤300 then (acc++n,true) else ([],false) | none=>([],false)))) ?_ ?_
  · intro acc ha hi; refine zhl _ _ _ ?_; rw [zaA (by rw [List.length_map,List.length_map]; omega),cPQ,List.take_length]; simp only [numsS,List.length_nil,List.append_nil]; rw [iPQ]; rfl
  · intro i x r hi hx hr ih acc ha hi3; refine zhl _ _ _ ?_; have hxi:(ws.map tx)[i]?=some (tx x):=by rw [List.getElem?_map,List.getElem?_eq_getElem hi,hx]; rfl
    rw [zax (by rw [List.length_map,List.length_map]; omega),cPQ,zao (by rw [List.length_map,List.length_map]; omega),zix,show 0+((i:Nat):Int).toNat=i by omega,hxi,Option.bind_some,zmy,zfz]; unfold numR
    cases hn:numS x with
    | none=>simp only [numsS,hn]; rw [Bool.not_false,zaD]; rfl
    | some n =>
      simp only; rw [Bool.not_true,zat]; by_cases h3:i=300
      · rw [show (((List.map zai acc).length:Int) == 300)=true from by rw [beq_iff_eq,List.length_map]; omega,zaD]; simp only [numsS,hn]
        cases numsS r with
        | none=>rfl
        | some t=>simp only; rw [if_neg (by simp; omega)]; rfl
      · rw [show (((List.map zai acc).length:Int) == 300)=false from by rw [beq_eq_false_iff_ne,List.length_map]; omega,zat,zao trivial,zao (by rw [List.length_map]; omega),zao trivial,w6Q,show ((i:Nat):Int)+1=((i+1:Nat):Int) by omega]; have e:List.map zai acc++[zai n]=List.map zai (acc++[n]):=by simp
        rw [e,ih (acc++[n]) (by simp; omega) (by omega)]; simp only [numsS,hn]
        cases numsS r with
        | none=>rfl
        | some t =>
          simp only [List.length_cons,List.append_assoc,List.singleton_append]; by_cases hq:i+1+t.length≤300
          · rw [if_pos hq,iPQ]
          · rw [if_neg hq,iNQ]
 have hk:=key [] rfl (by decide); refine hk.trans ?_; have hnl:∀ n,numsS ws=some n→n.length=ws.length:=fun n=>zkK ws n
 cases hn:numsS ws with
 | none =>
   simp only; by_cases hq:ws.length≤300
   · rw [if_pos hq]
   · rw [if_neg hq]
 | some n =>
   have:=hnl n hn; simp only [List.nil_append]; by_cases hq:ws.length≤300
   · rw [if_pos hq,iPQ]
   · rw [if_neg hq,iNQ]
theorem read_n {off:Nat} (h:off∈[1,2,3,4,5,6,7,8,11,12,13,15,16,17,18,20,21,22,23,24,26,27,29,30]) (x:GOp) (l:List UInt8):cw zbK [.agg [.loc 1000 31 0 off,.v (.pointer none)],.v (.string (tx l))] [(1000,⟨31,zaf,[nGOp x],true⟩)]=some (zcd ((numR l).2,putN (numR l).1 off x)):=by
 have hc:=zmy l; generalize tx l=w at hc
 have key:∀ {y:AV×Mem},(callD zcr (cw zdc [AV.v (.string w)] []) fun (r0:Int×Bool)=>some (B r0.snd,[(1000,⟨31,zaf,[nGOp (putN r0.1 off x)],true⟩)]))=some y→cw zbK [.agg [.loc 1000 31 0 off,.v (.pointer none)],.v (.string w)] [(1000,⟨31,zaf,[nGOp x],true⟩)]=some y:=by
  clear hc; simp only [List.mem_cons,List.mem_nil_iff,or_false] at h; rcases h with rfl | rfl | rfl | rfl | rfl | rfl | rfl | rfl | rfl | rfl | rfl | rfl | rfl | rfl | rfl | rfl | rfl | rfl | rfl | rfl | rfl | rfl | rfl | rfl
  all_goals
   intro y h; exact zjw zgE zT [] rfl (by kernel_rfl) (by kernel_rfl) (by kernel_rfl) (by kernel_rfl) (by kernel_rfl) h
 refine key ?_; rw [hc,zfz]; rfl
theorem read_l {off:Nat} (h:off∈[9,10,19,28]) (x:GOp) (l:List UInt8) (hl:l.length < 4294967281):cw zbK [.agg [.v (.pointer none),.loc 1000 31 0 off],.v (.string (tx l))] [(1000,⟨31,zaf,[nGOp x],true⟩)]=some (zcd ((listR l).2,putL (listR l).1 off x)):=by
 have hc:=c_listOf l hl; generalize tx l=w at hc
 have key:∀ {y:AV×Mem},(callD zef (cw zfQ [AV.v (.string w)] []) fun (r0:(List Int)×Bool)=>some (B r0.snd,[(1000,⟨31,zaf,[nGOp (putL r0.1 off x)],true⟩)]))=some y→cw zbK [.agg [.v (.pointer none),.loc 1000 31 0 off],.v (.string w)] [(1000,⟨31,zaf,[nGOp x],true⟩)]=some y:=by
  clear hc; simp only [List.mem_cons,List.mem_nil_iff,or_false] at h; rcases h with rfl | rfl | rfl | rfl
  all_goals
   intro y h; exact zjw zgE zT [] rfl (by kernel_rfl) (by kernel_rfl) (by kernel_rfl) (by kernel_rfl) (by kernel_rfl) h
 refine key ?_; rw [hc,zjr]; rfl
theorem slots_n {W i off:Nat} (h:(slotsC W)[i]?=some (false,off)):off∈[1,2,3,4,5,6,7,8,11,12,13,15,16,17,18,20,21,22,23,24,26,27,29,30]:=by
 have hW:W < 12:=by
  rcases Nat.lt_or_ge W 12 with q | q
  · exact q
  · rw [show slotsC W=[] from by unfold slotsC; split <;> first | omega | rfl] at h; simp at h
 have key:∀ W < 12,∀ p∈slotsC W,p.1=false→p.2∈[1,2,3,4,5,6,7,8,11,12,13,15,16,17,18,20,21,22,23,24,26,27,29,30]:=by decide
 exact key W hW _ (List.mem_of_getElem? h) rfl
theorem slots_l {W i off:Nat} (h:(slotsC W)[i]?=some (true,off)):off∈[9,10,19,28]:=by
 have hW:W < 12:=by
  rcases Nat.lt_or_ge W 12 with q | q
  · exact q
  · rw [show slotsC W=[] from by unfold slotsC; split <;> first | omega | rfl] at h; simp at h
 have key:∀ W < 12,∀ p∈slotsC W,p.1=true→p.2∈[9,10,19,28]:=by decide
 exact key W hW _ (List.mem_of_getElem? h) rfl
end Go.Proofs.YtdclabgakicjeaaDoor
namespace Go.Proofs.YtdclabgakicjeaaDoor
open Go.Ab Go.Str
set_option maxRecDepth 100000
theorem c_joined {w:List UInt8} {ns:List Int} (hw:w.length≤1000000) (hl:ns.length≤1000) (hn:∀ n∈ns,W64 n):cw zd6 [.v (.string (tx w)),.sl 1 (List.map zai ns)] []=some (zbu (tx (zi9 w ns))):=by
 refine zma (tx w) ns ?_
 have key:∀ v:List UInt8,v.length≤1000000+21*0→zcn ns (tx v) (0:Nat)=some (zbu (tx (zi9 v ns))):=by
  refine zdX ns (fun i r=>∀ v:List UInt8,v.length≤1000000+21*i→zcn ns (tx v) (i:Nat)=some (zbu (tx (zi9 v r)))) ?_ ?_
  · intro v hv; refine zhk ns _ _ ?_; rw [zaA (by rw [List.length_map]; omega)]; rfl
  · intro i x r hi hx hr ih v hv; have hxw:W64 x:=hn x (by rw [← hx]; exact List.getElem_mem hi); have hxl:=zeZ hxw; refine zhk ns _ _ ?_; rw [zax (by rw [List.length_map]; omega),cPQ,zcI,show ((i:Nat):Int).toNat=i from rfl,List.getElem?_eq_getElem hi,Option.bind_some,hx,c_Itoa hxw,za4,show (zcU:ByteArray)=tx [32] from rfl,zao (by rw [zbi,zbi]; simp; omega),zdY,zao (by rw [zbi,zbi]; simp; omega),zdY,w6Q,show ((i:Nat):Int)+1=((i+1:Nat):Int) by omega]; rw [ih _ (by simp; omega)]; rfl
 exact key w (by omega)
theorem c_Outcome {o:zds} (h:OutW o):cw zfo [.agg (zhe o)] []=some (zbu (tx (outS o))):=by
 refine zld o ?_; have h1:=zeZ h.1; rw [c_Itoa h.1,za4,show (zd1:ByteArray)=tx [32,103,114,97,100,101] from rfl,show (zd2:ByteArray)=tx [32,97,98,115,101,110,116] from rfl,show (zd3:ByteArray)=tx [32,112,101,110,100,105,110,103] from rfl,zdY,zdY,zdY]; unfold outS; by_cases k0:o.Kind=0
 · rw [show (o.Kind == 0)=true from beq_iff_eq.2 k0,zaD,zao (by rw [zbi,zbi]; simp; omega),c_joined (by simp; omega) (by simp) (fun n hn=>by
    simp only [List.mem_cons,List.mem_nil_iff,or_false] at hn; rcases hn with rfl | rfl
    · exact h.2.1
    · exact h.2.2.1),za4,if_pos k0]
   rfl
 rw [show (o.Kind == 0)=false from beq_eq_false_iff_ne.2 k0,zat,if_neg k0]; by_cases k1:o.Kind=1
 · rw [show (o.Kind == 1)=true from beq_iff_eq.2 k1,zaD,zao (by rw [zbi,zbi]; simp; omega),if_pos k1]; rfl
 rw [show (o.Kind == 1)=false from beq_eq_false_iff_ne.2 k1,zat,if_neg k1]; by_cases k2:o.Kind=2
 · rw [show (o.Kind == 2)=true from beq_iff_eq.2 k2,zaD,zao (by rw [zbi,zbi]; simp; omega),c_joined (by simp; omega) (by simp) (fun n hn=>by
    simp only [List.mem_cons,List.mem_nil_iff,or_false] at hn; subst hn
    exact h.2.2.2),za4,if_pos k2]
   rfl
 rw [show (o.Kind == 2)=false from beq_eq_false_iff_ne.2 k2,zat,if_neg k2]; rfl
end Go.Proofs.YtdclabgakicjeaaDoor
namespace Go.Proofs.YtdclabgakicjeaaDoor
open Go.Ab Go.Str
set_option maxRecDepth 100000
end Go.Proofs.YtdclabgakicjeaaDoor
namespace Go.Proofs.YtdclabgakicjeaaDoor
open Go.Ab Go.Str
set_option maxRecDepth 100000
end Go.Proofs.YtdclabgakicjeaaDoor
namespace Go.Proofs.YtdclabgakicjeaaDoor
open Go.Ab Go.Str
set_option maxRecDepth 100000
theorem znu (c:UInt8):∀ (a:List UInt8) (ws:List (List UInt8)),Lib.join (a :: ws) [c]=a++ws.flatMap fun w=>c :: w
 | a,[]=>by simp [Lib.join,List.intercalate]
 | a,b :: ws=>by
   have e:Lib.join (a :: b :: ws) [c]=a++c :: Lib.join (b :: ws) [c]:=by simp [Lib.join,List.intercalate,List.intersperse]
   rw [e,znu c b ws]; simp
theorem flat_len (c:UInt8):∀ (ns:List Int),(∀ n∈ns,W64 n)→((ns.map Lib.itoa).flatMap fun w=>c :: w).length≤21*ns.length
 | [],_=>by simp
 | n :: ns,h=>by have h1:=zeZ (h n (by simp)); have h2:=flat_len c ns (fun m hm=>h m (by simp [hm])); simp only [List.map_cons,List.flatMap_cons,List.length_append,List.length_cons] at h2 ⊢; omega
theorem wordL_len {l:List Int} (h:∀ n∈l,W64 n):(wordL l).length≤21*l.length+1:=by
 unfold wordL; split
 · simp
 · cases l with
   | nil=>simp at *
   | cons n r=>have h1:=zeZ (h n (by simp)); have h2:=flat_len 44 r (fun m hm=>h m (by simp [hm])); rw [List.map_cons,znu,List.length_append,List.length_cons]; omega
theorem zg1 (a b:List Int) (ha:a.length < 1000000000):cw zb6 [.sl 1 (List.map zai a),.sl 1 (List.map zai b)] []=some (zay (decide (a=b))):=by
 refine zlk a b ?_; by_cases hl:a.length=b.length
 · rw [show (((List.map zai a).length:Int) != ((List.map zai b).length:Int))=false from by rw [bne_eq_false_iff_eq,List.length_map,List.length_map,hl],zat]
   have key:∀ s:List Int,a.length - 0=s.length→b.drop 0=s→zcc a b (0:Nat)=some (zay (decide (a=s))):=by
    refine zdX a (fun i r=>∀ s:List Int,r.length=s.length→b.drop i=s→zcc a b (i:Nat)=some (zay (decide (r=s)))) ?_ ?_
    · intro s hs _; refine zgP a b _ ?_; rw [zaA (by rw [List.length_map]; omega)]; have:s=[]:=List.eq_nil_of_length_eq_zero (by simpa using hs.symm); rw [this]; rfl
    · intro i x r hi hx hr ih s hs hb; have hib:i < b.length:=by omega
      refine zgP a b _ ?_; rw [zax (by rw [List.length_map]; omega),cPQ,zcI,show ((i:Nat):Int).toNat=i from rfl,List.getElem?_eq_getElem hi,Option.bind_some,cPQ,zcI,List.getElem?_eq_getElem hib,Option.bind_some,hx]; rw [List.drop_eq_getElem_cons hib] at hb; subst hb; simp only [List.length_cons,Nat.add_right_cancel_iff] at hs; by_cases he:x=b[i]
      · rw [show (x != b[i])=false from by rw [bne_eq_false_iff_eq]; exact he,zat,w6Q,show ((i:Nat):Int)+1=((i+1:Nat):Int) by omega,ih _ hs rfl]; simp only [List.cons.injEq,he,true_and]
      · rw [show (x != b[i])=true from by rw [bne_iff_ne]; exact he,zaD]; have:decide (x :: r=b[i] :: b.drop (i+1))=false:=by simp only [List.cons.injEq,he,false_and,decide_false]
        rw [this]; rfl
   exact key b (by omega) rfl
 · rw [show (((List.map zai a).length:Int) != ((List.map zai b).length:Int))=true from by rw [bne_iff_ne,List.length_map,List.length_map]; omega,zaD]; have:decide (a=b)=false:=decide_eq_false (fun e=>hl (by rw [e])); rw [this]; rfl
end Go.Proofs.YtdclabgakicjeaaDoor
namespace Go.Proofs.YtdclabgakicjeaaDoor
open Go.Ab Go.Str
set_option maxRecDepth 100000
theorem zon (a b:zap) (h2:a.Pages.length < 1000000000) (h3:a.Answers.length < 1000000000):cw zeV [.agg (zan a),.agg (zan b)] []=some (zay (decide (a=b))):=by refine zky a b ?_; rw [zg1 _ _ h2,zg1 _ _ h3]; simp only [zaE,zkT]; obtain ⟨s1,s2,s3,s4,s5,s6,s7⟩:=a; obtain ⟨s1',s2',s3',s4',s5',s6',s7'⟩:=b; refine congrArg (fun b=>some (B b,([]:Mem))) ?_; rw [Bool.eq_iff_iff]; simp only [Bool.and_eq_true,beq_iff_eq,decide_eq_true_eq,and_true,zap.mk.injEq]
theorem c_rSameM (a b:zaz) (h4:a.Pages.length < 1000000000):cw zh8 [.agg (zaU a),.agg (zaU b)] []=some (zay (decide (a=b))):=by refine zor a b ?_; rw [zg1 _ _ h4]; simp only [zaE,zkT]; obtain ⟨⟨v1,v2,v3⟩,v4,v5,v6,v7,v8,v9⟩:=a; obtain ⟨⟨v1',v2',v3'⟩,v4',v5',v6',v7',v8',v9'⟩:=b; refine congrArg (fun b=>some (B b,([]:Mem))) ?_; rw [Bool.eq_iff_iff]; simp only [Bool.and_eq_true,beq_iff_eq,decide_eq_true_eq,and_true,zaz.mk.injEq,zcN.mk.injEq]
theorem c_rSame (a b:GOp) (h1:a.Bounds.length < 1000000000) (h2:a.Script.Pages.length < 1000000000) (h3:a.Script.Answers.length < 1000000000) (h4:a.Event.Pages.length < 1000000000):cw zgm [.agg (nGOp a),.agg (nGOp b)] []=some (zay (decide (a=b))):=by refine zos a b ?_; rw [zg1 _ _ h1,zon _ _ h2 h3,c_rSameM _ _ h4]; simp only [zaE,zaE,zaE,zkT]; obtain ⟨k,⟨e1,e2,e3⟩,sc,ev,⟨p1,p2⟩,⟨⟨a1,a2,a3⟩,a4,a5,a6⟩,bs,t,n⟩:=a; obtain ⟨k',⟨e1',e2',e3'⟩,sc',ev',⟨p1',p2'⟩,⟨⟨a1',a2',a3'⟩,a4',a5',a6'⟩,bs',t',n'⟩:=b; refine congrArg (fun b=>some (B b,([]:Mem))) ?_; rw [Bool.eq_iff_iff]; simp only [Bool.and_eq_true,beq_iff_eq,decide_eq_true_eq,and_true,GOp.mk.injEq,zft.mk.injEq,zcN.mk.injEq,zdt.mk.injEq,zeq.mk.injEq]
def lineF (o:GOp):Nat:=
 if o.Kind=0 then 0 else if o.Kind=1 then 1 else if o.Kind=2 then (if o.Event.Kind=0 then 2 else if o.Event.Kind=1 then 3 else 4)
 else if o.Kind=3 then 5 else if o.Kind=4 then (if o.Appeal.Kind=0 then 6 else 7) else if o.Kind=5 then 8 else if o.Kind=6 then 9 else if o.Kind=7 then 10 else if o.Kind=8 then 11 else 12
theorem kwlen (W:Nat):(kw W).length≤9:=by
 rcases Nat.lt_or_ge W 12 with h | h
 · rcases lt12' h with rfl | rfl | rfl | rfl | rfl | rfl | rfl | rfl | rfl | rfl | rfl | rfl <;> decide
 · unfold kw; rw [List.getElem?_eq_none (by simpa [formsT] using h)]; simp
end Go.Proofs.YtdclabgakicjeaaDoor
namespace Go.Proofs.YtdclabgakicjeaaDoor
open Go.Ab Go.Str
set_option maxRecDepth 100000
def fill:List (Bool×Nat)→List Int→List (List Int)→GOp→GOp
 | [],_,_,c=>c
 | (false,o) :: ps,n :: ns,ls,c=>fill ps ns ls (putN n o c)
 | (true,o) :: ps,ns,l :: ls,c=>fill ps ns ls (putL l o c)
 | _,_,_,c=>c
theorem kw_ne:∀ V < 12,∀ W < 12,V≠W→kw V≠kw W:=by decide
theorem slots7 (W:Nat):(slotsC W).length≤7:=by unfold slotsC; split <;> decide
end Go.Proofs.YtdclabgakicjeaaDoor
namespace Go.Proofs.YtdclabgakicjeaaDoor
open Go.Ab Go.Str
set_option maxRecDepth 100000
theorem form_at {i:Nat} {hd:List UInt8} (hi:i < 12) (h:kw i=hd):zcv hd=i:=by
 unfold zcv
 have:(List.range 12).find? (fun w=>kw w == hd)=some i:=by rw [List.find?_range_eq_some]; refine ⟨by simp [h],List.mem_range.2 hi,fun j hj=>?_⟩; have:=kw_ne j (by omega) i hi (by omega); rw [h] at this; simp [this]
 rw [this]; rfl
theorem okW_read {o c:GOp} {p:Bool×Nat}:read1 c p (wordC o p)=if okW o p then some (copy1 o c p) else none:=by
 unfold read1 wordC okW copy1; split
 · rename_i h; rw [zpb]; split <;> rfl
 · rename_i h; have e:numS (Lib.itoa (getN p.2 o))=if fits (getN p.2 o) then some (getN p.2 o) else none:=zkJ (getN p.2 o); rw [e]; split <;> rfl
theorem zjY (o:GOp):∀ (ps:List (Bool×Nat)) (c:GOp),zbE ps (ps.map (wordC o)) c=if ∀ p∈ps,okW o p then some (ps.foldl (copy1 o) c) else none
 | [],c=>by simp [zbE]
 | p :: ps,c=>by
   rw [List.map_cons]; unfold zbE; rw [okW_read]; by_cases h:okW o p
   · rw [if_pos h]; simp only; rw [zjY o ps]; by_cases h2:∀ q∈ps,okW o q
     · rw [if_pos h2,if_pos (fun q hq=>(List.mem_cons.1 hq).elim (fun e=>e▸h) (fun e=>h2 q e))]; rfl
     · rw [if_neg h2,if_neg (fun q=>h2 (fun r hr=>q r (by simp [hr])))]
   · rw [if_neg h,if_neg (fun q=>h (q p (by simp)))]
theorem wordC_free {o:GOp} {p:Bool×Nat}:(32:UInt8) ∉ wordC o p:=by
 unfold wordC; split
 · exact zm8 (by decide) (by decide) (by decide)
 · exact ziy (by decide) (by decide)
theorem kw_free:∀ W < 12,(32:UInt8) ∉ kw W:=by decide
theorem par_line {W:Nat} (hW:W < 12) (o:GOp):parS (lineS W o)=if ∀ p∈slotsC W,okW o p then some (copyS W o) else none:=by
 unfold parS lineS
 rw [ziQ 32 _ (by simp) (fun w hw=>by
  rcases List.mem_cons.1 hw with rfl | hw
  · exact kw_free W hW
  · obtain ⟨p,_,rfl⟩:=List.mem_map.1 hw
    exact wordC_free)]
 simp only; rw [form_at hW rfl,if_pos ⟨hW,by rw [List.length_map]⟩,zjY]; rfl
end Go.Proofs.YtdclabgakicjeaaDoor
namespace Go.Proofs.YtdclabgakicjeaaDoor
open Go.Ab Go.Str
set_option maxRecDepth 100000
theorem zly {o:GOp} {w:Nat} (hw:w < 12) (h:isForm o w=true):lineF o=w:=by
 rcases lt12' hw with rfl | rfl | rfl | rfl | rfl | rfl | rfl | rfl | rfl | rfl | rfl | rfl
 all_goals
  simp only [isForm,blankS,zOp,Bool.and_eq_true,Bool.or_eq_true,decide_eq_true_eq] at h; obtain ⟨h1,h2,h3⟩:=h; unfold lineF
  simp_all
theorem zou {o:GOp} (h:zbo o < 12):lineF o=zbo o:=by
 have:isForm o (zbo o)=true:=by
  unfold zbo at h ⊢
  cases hf:(List.range 12).find? (isForm o) with
  | none=>rw [hf] at h; simp at h
  | some w=>exact List.find?_some hf
 exact zly h this
theorem copy_form {o:GOp} {W:Nat} (hW:W < 12) (h:copyS W o=o):isForm o W=true:=by
 have h1:=congrArg GOp.Kind h; have h2:=congrArg (fun q:GOp=>q.Event.Kind) h; have h3:=congrArg (fun q:GOp=>q.Appeal.Kind) h; rcases lt12' hW with rfl | rfl | rfl | rfl | rfl | rfl | rfl | rfl | rfl | rfl | rfl | rfl
 all_goals
  simp only [copyS,slotsC,blankS,zOp,List.foldl_cons,List.foldl_nil,copy1,putN,putL,if_true,Bool.false_eq_true,if_false] at h1 h2 h3; simp only [isForm,blankS,zOp,Bool.and_eq_true,Bool.or_eq_true,decide_eq_true_eq]; simp [← h1,← h2,← h3]
theorem znx {o:GOp} {W:Nat} (hW:W < 12) (h:copyS W o=o):zbo o=W:=by
 have hi:=copy_form hW h; have hl:=zly hW hi
 have:zbo o < 12:=by
  unfold zbo
  cases hf:(List.range 12).find? (isForm o) with
  | none=>exact absurd hi (List.find?_eq_none.1 hf W (List.mem_range.2 hW))
  | some w=>exact List.mem_range.1 (List.mem_of_find?_eq_some hf)
 rw [← zou this,hl]
theorem word_len2 {o:GOp} (ho:OpW o) (p:Bool×Nat):(wordC o p).length≤21001:=by
 unfold wordC; split
 · have:=wordL_len (ho.list p.2).2; have:=(ho.list p.2).1; omega
 · have:=zeZ (ho.num p.2); omega
theorem lineS_len {o:GOp} (ho:OpW o) (W:Nat):(lineS W o).length≤200000:=by
 have hlen:=slots7 W
 have hj:=zgU (k:=21001) 32 (kw W :: (slotsC W).map (wordC o)) (fun w hw=>by
  rcases List.mem_cons.1 hw with rfl | hw
  · have:=kwlen W; omega
  · obtain ⟨p,hp,rfl⟩:=List.mem_map.1 hw
    exact word_len2 ho p)
 unfold lineS; simp only [List.length_cons,List.length_map] at hj; omega
end Go.Proofs.YtdclabgakicjeaaDoor
namespace Go.Proofs.YtdclabgakicjeaaDoor
open Go.Ab Go.Str
set_option maxRecDepth 100000
theorem zev (o:GOp) (r:List GOp):linesS (o :: r)=match fmtS o,linesS r with
  | some l,some t=>some (l++10 :: t)
  | _,_=>none:=rfl
theorem fmt_len2 {o:GOp} (ho:OpW o) {l:List UInt8} (h:fmtS o=some l):l.length≤200000:=by
 unfold fmtS at h; split at h
 · injection h with h; subst h; exact lineS_len ho _
 · cases h
end Go.Proofs.YtdclabgakicjeaaDoor
namespace Go.Proofs.YtdclabgakicjeaaDoor
open Go.Ab
set_option maxRecDepth 100000
theorem lt12 {w:Nat} (h:w < 12):w=0∨w=1∨w=2∨w=3∨w=4∨w=5∨w=6∨w=7∨w=8∨w=9∨w=10∨w=11:=by omega
def tsA (w:Nat):List (List AV):=(slotsC w).map fun p=>if p.1 then [.v (.pointer none),.loc 5 31 0 p.2] else [.loc 5 31 0 p.2,.v (.pointer none)]
theorem fm0 (o:GOp):tReg zak zT 0 ⟨[(0,AV.agg (nGOp o))],[]⟩=(some ⟨[(1,AV.loc 1 31 0 0)],[(1,⟨31,zaf,[nGOp o],true⟩)]⟩):=by kernel_rfl
theorem fm1 (o:GOp):tReg zak zT 1 ⟨[(1,AV.loc 1 31 0 0)],[(1,⟨31,zaf,[nGOp o],true⟩)]⟩=(callD zee (cw zfP [AV.agg (nGOp o)] []) fun (r0:Int)=>some ⟨[(1,AV.loc 1 31 0 0),(4,I r0)],[(1,⟨31,zaf,[nGOp o],true⟩)]⟩):=by kernel_rfl
theorem fm10l (o:GOp) (c:GOp) (fs:List (List AV)) (W:Nat) (hW:W < 12) (ws:List ByteArray) (n:Int) (i:Int) (v:List Int):tReg zak zT 10 ⟨[(1,AV.fp (nGOp o)),(5,AV.loc 5 31 0 0),(7,AV.row 22 2 0 (slotsC W).length),(8,AV.row 8 1 0 (List.length (List.map nStr ws))),(9,I i),(10,AV.loc 10 2 0 0),(28,AV.sl 2 fs),(29,I n),(30,I i)],[(5,⟨31,zaf,[nGOp c],true⟩),(8,⟨1,zav,List.map nStr ws,false⟩),(10,⟨2,zad,[[AV.v (.pointer none),AV.fp [AV.sl 1 (List.map zai v)]]],true⟩),(22,⟨2,zad,tsA W,true⟩)]⟩=(callD zbc (cw zbL [AV.agg [AV.v (.pointer none),AV.fp [AV.sl 1 (List.map zai v)]]] []) fun (r0:ByteArray×Bool) =>
 some ⟨[(1,AV.fp (nGOp o)),(5,AV.loc 5 31 0 0),(7,AV.row 22 2 0 (slotsC W).length),(8,AV.row 8 1 0 (List.length (List.map nStr ws))),(9,I i),(10,AV.loc 10 2 0 0),(11,AV.v (.string r0.fst)),(12,B r0.snd),(28,AV.sl 2 fs),(29,I n),(30,I i)],[(5,⟨31,zaf,[nGOp c],true⟩),(8,⟨1,zav,List.map nStr ws,false⟩),(10,⟨2,zad,[[AV.v (.pointer none),AV.fp [AV.sl 1 (List.map zai v)]]],true⟩),(22,⟨2,zad,tsA W,true⟩)]⟩):=by
 rcases lt12 hW with rfl | rfl | rfl | rfl | rfl | rfl | rfl | rfl | rfl | rfl | rfl | rfl <;> kernel_rfl
theorem fm10n (o:GOp) (c:GOp) (fs:List (List AV)) (W:Nat) (hW:W < 12) (ws:List ByteArray) (n:Int) (i:Int) (v:Int):tReg zak zT 10 ⟨[(1,AV.fp (nGOp o)),(5,AV.loc 5 31 0 0),(7,AV.row 22 2 0 (slotsC W).length),(8,AV.row 8 1 0 (List.length (List.map nStr ws))),(9,I i),(10,AV.loc 10 2 0 0),(28,AV.sl 2 fs),(29,I n),(30,I i)],[(5,⟨31,zaf,[nGOp c],true⟩),(8,⟨1,zav,List.map nStr ws,false⟩),(10,⟨2,zad,[[AV.fp [I v],AV.v (.pointer none)]],true⟩),(22,⟨2,zad,tsA W,true⟩)]⟩=(callD zbc (cw zbL [AV.agg [AV.fp [I v],AV.v (.pointer none)]] []) fun (r0:ByteArray×Bool) =>
 some ⟨[(1,AV.fp (nGOp o)),(5,AV.loc 5 31 0 0),(7,AV.row 22 2 0 (slotsC W).length),(8,AV.row 8 1 0 (List.length (List.map nStr ws))),(9,I i),(10,AV.loc 10 2 0 0),(11,AV.v (.string r0.fst)),(12,B r0.snd),(28,AV.sl 2 fs),(29,I n),(30,I i)],[(5,⟨31,zaf,[nGOp c],true⟩),(8,⟨1,zav,List.map nStr ws,false⟩),(10,⟨2,zad,[[AV.fp [I v],AV.v (.pointer none)]],true⟩),(22,⟨2,zad,tsA W,true⟩)]⟩):=by
 rcases lt12 hW with rfl | rfl | rfl | rfl | rfl | rfl | rfl | rfl | rfl | rfl | rfl | rfl <;> kernel_rfl
theorem fm11l (o:GOp) (c:GOp) (fs:List (List AV)) (W:Nat) (hW:W < 12) (ws:List ByteArray) (n:Int) (i:Int) (v:List Int) (s:ByteArray) (q:Bool):tReg zak zT 11 ⟨[(1,AV.fp (nGOp o)),(5,AV.loc 5 31 0 0),(7,AV.row 22 2 0 (slotsC W).length),(8,AV.row 8 1 0 (List.length (List.map nStr ws))),(9,I i),(10,AV.loc 10 2 0 0),(11,AV.v (.string s)),(12,B q),(28,AV.sl 2 fs),(29,I n),(30,I i)],[(5,⟨31,zaf,[nGOp c],true⟩),(8,⟨1,zav,List.map nStr ws,false⟩),(10,⟨2,zad,[[AV.v (.pointer none),AV.fp [AV.sl 1 (List.map zai v)]]],true⟩),(22,⟨2,zad,tsA W,true⟩)]⟩=(some ⟨[(1,AV.fp (nGOp o)),(5,AV.loc 5 31 0 0),(7,AV.row 22 2 0 (slotsC W).length),(8,AV.row 8 1 0 (List.length (List.map nStr ws))),(9,I i),(10,AV.loc 10 2 0 0),(11,AV.v (.string s)),(28,AV.sl 2 fs),(29,I n),(30,I i),(41,B (!q))],[(5,⟨31,zaf,[nGOp c],true⟩),(8,⟨1,zav,List.map nStr ws,false⟩),(10,⟨2,zad,[[AV.v (.pointer none),AV.fp [AV.sl 1 (List.map zai v)]]],true⟩),(22,⟨2,zad,tsA W,true⟩)]⟩):=by rcases lt12 hW with rfl | rfl | rfl | rfl | rfl | rfl | rfl | rfl | rfl | rfl | rfl | rfl <;> kernel_rfl
theorem fm11n (o:GOp) (c:GOp) (fs:List (List AV)) (W:Nat) (hW:W < 12) (ws:List ByteArray) (n:Int) (i:Int) (v:Int) (s:ByteArray) (q:Bool):tReg zak zT 11 ⟨[(1,AV.fp (nGOp o)),(5,AV.loc 5 31 0 0),(7,AV.row 22 2 0 (slotsC W).length),(8,AV.row 8 1 0 (List.length (List.map nStr ws))),(9,I i),(10,AV.loc 10 2 0 0),(11,AV.v (.string s)),(12,B q),(28,AV.sl 2 fs),(29,I n),(30,I i)],[(5,⟨31,zaf,[nGOp c],true⟩),(8,⟨1,zav,List.map nStr ws,false⟩),(10,⟨2,zad,[[AV.fp [I v],AV.v (.pointer none)]],true⟩),(22,⟨2,zad,tsA W,true⟩)]⟩=(some ⟨[(1,AV.fp (nGOp o)),(5,AV.loc 5 31 0 0),(7,AV.row 22 2 0 (slotsC W).length),(8,AV.row 8 1 0 (List.length (List.map nStr ws))),(9,I i),(10,AV.loc 10 2 0 0),(11,AV.v (.string s)),(28,AV.sl 2 fs),(29,I n),(30,I i),(41,B (!q))],[(5,⟨31,zaf,[nGOp c],true⟩),(8,⟨1,zav,List.map nStr ws,false⟩),(10,⟨2,zad,[[AV.fp [I v],AV.v (.pointer none)]],true⟩),(22,⟨2,zad,tsA W,true⟩)]⟩):=by rcases lt12 hW with rfl | rfl | rfl | rfl | rfl | rfl | rfl | rfl | rfl | rfl | rfl | rfl <;> kernel_rfl
theorem fm13l (o:GOp) (c:GOp) (fs:List (List AV)) (W:Nat) (hW:W < 12) (ws:List ByteArray) (n:Int) (i:Int) (v:List Int) (s:ByteArray):tReg zak zT 13 ⟨[(1,AV.fp (nGOp o)),(5,AV.loc 5 31 0 0),(7,AV.row 22 2 0 (slotsC W).length),(8,AV.row 8 1 0 (List.length (List.map nStr ws))),(9,I i),(10,AV.loc 10 2 0 0),(11,AV.v (.string s)),(28,AV.sl 2 fs),(29,I n),(30,I i)],[(5,⟨31,zaf,[nGOp c],true⟩),(8,⟨1,zav,List.map nStr ws,false⟩),(10,⟨2,zad,[[AV.v (.pointer none),AV.fp [AV.sl 1 (List.map zai v)]]],true⟩),(22,⟨2,zad,tsA W,true⟩)]⟩=(chk ((List.map nStr ws).length=(List.map nStr ws).length)<|
 chk (((List.map nStr ws).length+1)*(16+1)≤1099511627776)<|
 chk ((List.map nStr ws++[[AV.v (Go.Value.string s)]]).length=(List.map nStr ws++[[AV.v (Go.Value.string s)]]).length)<|
 some ⟨[(1,AV.fp (nGOp o)),(5,AV.loc 5 31 0 0),(7,AV.row 22 2 0 (slotsC W).length),(8,AV.row 8 1 0 (List.length ((List.map nStr ws)++([[AV.v (.string s)]])))),(9,I i),(10,AV.loc 10 2 0 0),(28,AV.sl 2 fs),(29,I n),(30,I i)],[(5,⟨31,zaf,[nGOp c],true⟩),(8,⟨1,zav,(List.map nStr ws)++([nStr s]),false⟩),(10,⟨2,zad,[[AV.v (.pointer none),AV.fp [AV.sl 1 (List.map zai v)]]],true⟩),(22,⟨2,zad,tsA W,true⟩)]⟩):=by
 rcases lt12 hW with rfl | rfl | rfl | rfl | rfl | rfl | rfl | rfl | rfl | rfl | rfl | rfl <;> kernel_rfl
theorem fm13n (o:GOp) (c:GOp) (fs:List (List AV)) (W:Nat) (hW:W < 12) (ws:List ByteArray) (n:Int) (i:Int) (v:Int) (s:ByteArray):tReg zak zT 13 ⟨[(1,AV.fp (nGOp o)),(5,AV.loc 5 31 0 0),(7,AV.row 22 2 0 (slotsC W).length),(8,AV.row 8 1 0 (List.length (List.map nStr ws))),(9,I i),(10,AV.loc 10 2 0 0),(11,AV.v (.string s)),(28,AV.sl 2 fs),(29,I n),(30,I i)],[(5,⟨31,zaf,[nGOp c],true⟩),(8,⟨1,zav,List.map nStr ws,false⟩),(10,⟨2,zad,[[AV.fp [I v],AV.v (.pointer none)]],true⟩),(22,⟨2,zad,tsA W,true⟩)]⟩=(chk ((List.map nStr ws).length=(List.map nStr ws).length)<|
 chk (((List.map nStr ws).length+1)*(16+1)≤1099511627776)<|
 chk ((List.map nStr ws++[[AV.v (Go.Value.string s)]]).length=(List.map nStr ws++[[AV.v (Go.Value.string s)]]).length)<|
 some ⟨[(1,AV.fp (nGOp o)),(5,AV.loc 5 31 0 0),(7,AV.row 22 2 0 (slotsC W).length),(8,AV.row 8 1 0 (List.length ((List.map nStr ws)++([[AV.v (.string s)]])))),(9,I i),(10,AV.loc 10 2 0 0),(28,AV.sl 2 fs),(29,I n),(30,I i)],[(5,⟨31,zaf,[nGOp c],true⟩),(8,⟨1,zav,(List.map nStr ws)++([nStr s]),false⟩),(10,⟨2,zad,[[AV.fp [I v],AV.v (.pointer none)]],true⟩),(22,⟨2,zad,tsA W,true⟩)]⟩):=by
 rcases lt12 hW with rfl | rfl | rfl | rfl | rfl | rfl | rfl | rfl | rfl | rfl | rfl | rfl <;> kernel_rfl
theorem fm14l (o:GOp) (c:GOp) (fs:List (List AV)) (W:Nat) (hW:W < 12) (ws:List ByteArray) (n:Int) (i:Int) (v:List Int):tReg zak zT 14 ⟨[(1,AV.fp (nGOp o)),(5,AV.loc 5 31 0 0),(7,AV.row 22 2 0 (slotsC W).length),(8,AV.row 8 1 0 (List.length (List.map nStr ws))),(9,I i),(10,AV.loc 10 2 0 0),(28,AV.sl 2 fs),(29,I n),(30,I i)],[(5,⟨31,zaf,[nGOp c],true⟩),(8,⟨1,zav,List.map nStr ws,false⟩),(10,⟨2,zad,[[AV.v (.pointer none),AV.fp [AV.sl 1 (List.map zai v)]]],true⟩),(22,⟨2,zad,tsA W,true⟩)]⟩=(some ⟨[(1,AV.fp (nGOp o)),(5,AV.loc 5 31 0 0),(7,AV.row 22 2 0 (slotsC W).length),(8,AV.row 8 1 0 (List.length (List.map nStr ws))),(9,I i),(10,AV.loc 10 2 0 0),(28,AV.sl 2 fs),(29,I n),(30,I i),(48,B true)],[(5,⟨31,zaf,[nGOp c],true⟩),(8,⟨1,zav,List.map nStr ws,false⟩),(10,⟨2,zad,[[AV.v (.pointer none),AV.fp [AV.sl 1 (List.map zai v)]]],true⟩),(22,⟨2,zad,tsA W,true⟩)]⟩):=by rcases lt12 hW with rfl | rfl | rfl | rfl | rfl | rfl | rfl | rfl | rfl | rfl | rfl | rfl <;> kernel_rfl
theorem fm14n (o:GOp) (c:GOp) (fs:List (List AV)) (W:Nat) (hW:W < 12) (ws:List ByteArray) (n:Int) (i:Int) (v:Int):tReg zak zT 14 ⟨[(1,AV.fp (nGOp o)),(5,AV.loc 5 31 0 0),(7,AV.row 22 2 0 (slotsC W).length),(8,AV.row 8 1 0 (List.length (List.map nStr ws))),(9,I i),(10,AV.loc 10 2 0 0),(28,AV.sl 2 fs),(29,I n),(30,I i)],[(5,⟨31,zaf,[nGOp c],true⟩),(8,⟨1,zav,List.map nStr ws,false⟩),(10,⟨2,zad,[[AV.fp [I v],AV.v (.pointer none)]],true⟩),(22,⟨2,zad,tsA W,true⟩)]⟩=(some ⟨[(1,AV.fp (nGOp o)),(5,AV.loc 5 31 0 0),(7,AV.row 22 2 0 (slotsC W).length),(8,AV.row 8 1 0 (List.length (List.map nStr ws))),(9,I i),(10,AV.loc 10 2 0 0),(28,AV.sl 2 fs),(29,I n),(30,I i),(48,B (!true))],[(5,⟨31,zaf,[nGOp c],true⟩),(8,⟨1,zav,List.map nStr ws,false⟩),(10,⟨2,zad,[[AV.fp [I v],AV.v (.pointer none)]],true⟩),(22,⟨2,zad,tsA W,true⟩)]⟩):=by rcases lt12 hW with rfl | rfl | rfl | rfl | rfl | rfl | rfl | rfl | rfl | rfl | rfl | rfl <;> kernel_rfl
theorem fm17 (o:GOp) (c:GOp) (fs:List (List AV)) (W:Nat) (hW:W < 12) (ws:List ByteArray) (n:Int) (i:Int):tReg zak zT 17 ⟨[(1,AV.fp (nGOp o)),(5,AV.loc 5 31 0 0),(7,AV.row 22 2 0 (slotsC W).length),(8,AV.row 8 1 0 (List.length (List.map nStr ws))),(28,AV.sl 2 fs),(29,I n),(30,I i)],[(5,⟨31,zaf,[nGOp c],true⟩),(8,⟨1,zav,List.map nStr ws,false⟩),(22,⟨2,zad,tsA W,true⟩)]⟩=(some ⟨[(1,AV.fp (nGOp o)),(5,AV.loc 5 31 0 0),(7,AV.row 22 2 0 (slotsC W).length),(8,AV.row 8 1 0 (List.length (List.map nStr ws))),(28,AV.sl 2 fs),(29,I n),(30,I (w64 (i+1)))],[(5,⟨31,zaf,[nGOp c],true⟩),(8,⟨1,zav,List.map nStr ws,false⟩),(22,⟨2,zad,tsA W,true⟩)]⟩):=by rcases lt12 hW with rfl | rfl | rfl | rfl | rfl | rfl | rfl | rfl | rfl | rfl | rfl | rfl <;> kernel_rfl
theorem fm18 (o:GOp) (c:GOp) (fs:List (List AV)) (W:Nat) (hW:W < 12) (ws:List ByteArray):tReg zak zT 18 ⟨[(1,AV.fp (nGOp o)),(5,AV.loc 5 31 0 0),(8,AV.row 8 1 0 (List.length (List.map nStr ws)))],[(5,⟨31,zaf,[nGOp c],true⟩),(8,⟨1,zav,List.map nStr ws,false⟩)]⟩=(callD zar (cw zgS [AV.agg (nGOp o),AV.agg (nGOp c)] []) fun (r0:Bool) =>
 some ⟨[(8,AV.row 8 1 0 (List.length (List.map nStr ws))),(73,B (!r0))],[(8,⟨1,zav,List.map nStr ws,false⟩)]⟩):=by
 rcases lt12 hW with rfl | rfl | rfl | rfl | rfl | rfl | rfl | rfl | rfl | rfl | rfl | rfl <;> kernel_rfl
theorem fm2 (o:GOp) (w:Int):tReg zak zT 2 ⟨[(1,AV.loc 1 31 0 0),(4,I w)],[(1,⟨31,zaf,[nGOp o],true⟩)]⟩=(some ⟨[(1,AV.loc 1 31 0 0),(4,I w),(16,B (w == 12))],[(1,⟨31,zaf,[nGOp o],true⟩)]⟩):=by kernel_rfl
theorem fm20 (ws:List ByteArray):tReg zak zT 20 ⟨[(8,AV.row 8 1 0 (List.length (List.map nStr ws)))],[(8,⟨1,zav,List.map nStr ws,false⟩)]⟩=(chk (0+(List.map nStr ws).length≤(List.map nStr ws).length)<|
 callD zaM (cw zcM [AV.sl 1 (List.take ((List.map nStr ws).length) (List.map nStr ws)),AV.v (.string ({ data:={ toList:=[32] } }))] []) fun (r0:ByteArray) =>
 some ⟨[(2,AV.v (.string r0)),(3,I 0)],[]⟩):=by kernel_rfl
theorem fm4 (o:GOp) (w:Int):tReg zak zT 4 ⟨[(1,AV.loc 1 31 0 0),(4,I w)],[(1,⟨31,zaf,[nGOp o],true⟩)]⟩=(callD zcx (cw zdb [I w] []) fun (r0:GOp)=>some ⟨[(1,AV.loc 1 31 0 0),(4,I w),(5,AV.loc 5 31 0 0)],[(1,⟨31,zaf,[nGOp o],true⟩),(5,⟨31,zaf,[nGOp r0],true⟩)]⟩):=by kernel_rfl
theorem fm6 (o:GOp) (c:GOp) (fs:List (List AV)) (W:Nat) (hW:W < 12) (s:ByteArray) (n:Int) (w:Int):tSeg zak zT 6 2 4 ⟨[(1,AV.fp (nGOp o)),(5,AV.loc 5 31 0 0),(24,AV.fp [AV.v (.string s),I n]),(6,AV.sl 2 fs),(7,AV.row 22 2 0 (slotsC W).length)],[(5,⟨31,zaf,[nGOp c],true⟩),(22,⟨2,zad,tsA W,true⟩)]⟩=(some ⟨[(8,AV.row 27 1 0 (List.length ([[AV.v (.string s)]]))),(27,AV.row 27 1 0 (List.length ([[AV.v (.string s)]]))),(26,AV.v (.string s)),(25,AV.fp [AV.v (.string s),I n]),(1,AV.fp (nGOp o)),(5,AV.loc 5 31 0 0),(24,AV.fp [AV.v (.string s),I n]),(6,AV.sl 2 fs),(7,AV.row 22 2 0 (slotsC W).length)],[(27,⟨1,zav,[nStr s],false⟩),(5,⟨31,zaf,[nGOp c],true⟩),(22,⟨2,zad,tsA W,true⟩)]⟩):=by rcases lt12 hW with rfl | rfl | rfl | rfl | rfl | rfl | rfl | rfl | rfl | rfl | rfl | rfl <;> kernel_rfl
theorem fm7 (o:GOp) (c:GOp) (fs:List (List AV)) (W:Nat) (hW:W < 12) (ws:List ByteArray):tReg zak zT 7 ⟨[(1,AV.fp (nGOp o)),(5,AV.loc 5 31 0 0),(6,AV.sl 2 fs),(7,AV.row 22 2 0 (slotsC W).length),(8,AV.row 8 1 0 (List.length (List.map nStr ws)))],[(5,⟨31,zaf,[nGOp c],true⟩),(8,⟨1,zav,List.map nStr ws,false⟩),(22,⟨2,zad,tsA W,true⟩)]⟩=(some ⟨[(1,AV.fp (nGOp o)),(5,AV.loc 5 31 0 0),(7,AV.row 22 2 0 (slotsC W).length),(8,AV.row 8 1 0 (List.length (List.map nStr ws))),(28,AV.sl 2 fs),(29,I (↑fs.length:Int)),(30,I 0)],[(5,⟨31,zaf,[nGOp c],true⟩),(8,⟨1,zav,List.map nStr ws,false⟩),(22,⟨2,zad,tsA W,true⟩)]⟩):=by rcases lt12 hW with rfl | rfl | rfl | rfl | rfl | rfl | rfl | rfl | rfl | rfl | rfl | rfl <;> kernel_rfl
theorem fm8 (o:GOp) (c:GOp) (fs:List (List AV)) (W:Nat) (hW:W < 12) (ws:List ByteArray) (n:Int) (i:Int):tReg zak zT 8 ⟨[(1,AV.fp (nGOp o)),(5,AV.loc 5 31 0 0),(7,AV.row 22 2 0 (slotsC W).length),(8,AV.row 8 1 0 (List.length (List.map nStr ws))),(28,AV.sl 2 fs),(29,I n),(30,I i)],[(5,⟨31,zaf,[nGOp c],true⟩),(8,⟨1,zav,List.map nStr ws,false⟩),(22,⟨2,zad,tsA W,true⟩)]⟩=(some ⟨[(1,AV.fp (nGOp o)),(5,AV.loc 5 31 0 0),(7,AV.row 22 2 0 (slotsC W).length),(8,AV.row 8 1 0 (List.length (List.map nStr ws))),(28,AV.sl 2 fs),(29,I n),(30,I i),(31,B (decide (i < n)))],[(5,⟨31,zaf,[nGOp c],true⟩),(8,⟨1,zav,List.map nStr ws,false⟩),(22,⟨2,zad,tsA W,true⟩)]⟩):=by rcases lt12 hW with rfl | rfl | rfl | rfl | rfl | rfl | rfl | rfl | rfl | rfl | rfl | rfl <;> kernel_rfl
theorem fm9l (o:GOp) (c:GOp) (fs:List (List AV)) (W:Nat) (hW:W < 12) (ws:List ByteArray) (n:Int) (i:Int) (v:List Int):tSeg zak zT 9 2 4 ⟨[(1,AV.fp (nGOp o)),(5,AV.loc 5 31 0 0),(7,AV.row 22 2 0 (slotsC W).length),(8,AV.row 8 1 0 (List.length (List.map nStr ws))),(28,AV.sl 2 fs),(29,I n),(30,I i),(32,I i),(33,AV.fp [AV.v (.pointer none),AV.fp [AV.sl 1 (List.map zai v)]])],[(5,⟨31,zaf,[nGOp c],true⟩),(8,⟨1,zav,List.map nStr ws,false⟩),(22,⟨2,zad,tsA W,true⟩)]⟩=(some ⟨[(9,I i),(10,AV.loc 10 2 0 0),(34,AV.agg [AV.v (.pointer none),AV.fp [AV.sl 1 (List.map zai v)]]),(1,AV.fp (nGOp o)),(5,AV.loc 5 31 0 0),(7,AV.row 22 2 0 (slotsC W).length),(8,AV.row 8 1 0 (List.length (List.map nStr ws))),(28,AV.sl 2 fs),(29,I n),(30,I i),(32,I i),(33,AV.fp [AV.v (.pointer none),AV.fp [AV.sl 1 (List.map zai v)]])],[(10,⟨2,zad,[[AV.v (.pointer none),AV.fp [AV.sl 1 (List.map zai v)]]],true⟩),(5,⟨31,zaf,[nGOp c],true⟩),(8,⟨1,zav,List.map nStr ws,false⟩),(22,⟨2,zad,tsA W,true⟩)]⟩):=by rcases lt12 hW with rfl | rfl | rfl | rfl | rfl | rfl | rfl | rfl | rfl | rfl | rfl | rfl <;> kernel_rfl
theorem fm9n (o:GOp) (c:GOp) (fs:List (List AV)) (W:Nat) (hW:W < 12) (ws:List ByteArray) (n:Int) (i:Int) (v:Int):tSeg zak zT 9 2 4 ⟨[(1,AV.fp (nGOp o)),(5,AV.loc 5 31 0 0),(7,AV.row 22 2 0 (slotsC W).length),(8,AV.row 8 1 0 (List.length (List.map nStr ws))),(28,AV.sl 2 fs),(29,I n),(30,I i),(32,I i),(33,AV.fp [AV.fp [I v],AV.v (.pointer none)])],[(5,⟨31,zaf,[nGOp c],true⟩),(8,⟨1,zav,List.map nStr ws,false⟩),(22,⟨2,zad,tsA W,true⟩)]⟩=(some ⟨[(9,I i),(10,AV.loc 10 2 0 0),(34,AV.agg [AV.fp [I v],AV.v (.pointer none)]),(1,AV.fp (nGOp o)),(5,AV.loc 5 31 0 0),(7,AV.row 22 2 0 (slotsC W).length),(8,AV.row 8 1 0 (List.length (List.map nStr ws))),(28,AV.sl 2 fs),(29,I n),(30,I i),(32,I i),(33,AV.fp [AV.fp [I v],AV.v (.pointer none)])],[(10,⟨2,zad,[[AV.fp [I v],AV.v (.pointer none)]],true⟩),(5,⟨31,zaf,[nGOp c],true⟩),(8,⟨1,zav,List.map nStr ws,false⟩),(22,⟨2,zad,tsA W,true⟩)]⟩):=by rcases lt12 hW with rfl | rfl | rfl | rfl | rfl | rfl | rfl | rfl | rfl | rfl | rfl | rfl <;> kernel_rfl
theorem fm16:∀ (W i:Nat) (off:Nat),(slotsC W)[i]?=some (false,off)→∀ (o c:GOp) (fs:List (List AV)) (ws:List ByteArray) (n:Int) (v:Int),tReg zak zT 16 ⟨[(1,AV.fp (nGOp o)),(5,AV.loc 5 31 0 0),(7,AV.row 22 2 0 (slotsC W).length),(8,AV.row 8 1 0 (List.length (List.map nStr ws))),(9,I i),(10,AV.loc 10 2 0 0),(28,AV.sl 2 fs),(29,I n),(30,I i)],[(5,⟨31,zaf,[nGOp c],true⟩),(8,⟨1,zav,List.map nStr ws,false⟩),(10,⟨2,zad,[[AV.fp [I v],AV.v (.pointer none)]],true⟩),(22,⟨2,zad,tsA W,true⟩)]⟩ =
  chk ((0:Int)≤(i:Nat)) (chk (((i:Nat):Int) < ((slotsC W).length:Nat)) (some ⟨[(1,AV.fp (nGOp o)),(5,AV.loc 5 31 0 0),(7,AV.row 22 2 0 (slotsC W).length),(8,AV.row 8 1 0 (List.length (List.map nStr ws))),(28,AV.sl 2 fs),(29,I n),(30,I i)],[(5,⟨31,zaf,[nGOp (putN v off c)],true⟩),(8,⟨1,zav,List.map nStr ws,false⟩),(22,⟨2,zad,tsA W,true⟩)]⟩)):=by
 intro W i off h o c fs ws n v
 have hW:W < 12:=by
  rcases Nat.lt_or_ge W 12 with q | q
  · exact q
  · rw [show slotsC W=[] from by unfold slotsC; split <;> first | omega | rfl] at h; simp at h
 rcases lt12 hW with rfl | rfl | rfl | rfl | rfl | rfl | rfl | rfl | rfl | rfl | rfl | rfl
 all_goals
  match i,h with
  | 0,h=>first | (cases h; done) | (have h1:=congrArg Prod.fst (Option.some.inj h); cases h1; done) | (have h2:=congrArg Prod.snd (Option.some.inj h); simp only at h2; subst h2; show _=_; kernel_rfl)
  | 1,h=>first | (cases h; done) | (have h1:=congrArg Prod.fst (Option.some.inj h); cases h1; done) | (have h2:=congrArg Prod.snd (Option.some.inj h); simp only at h2; subst h2; show _=_; kernel_rfl)
  | 2,h=>first | (cases h; done) | (have h1:=congrArg Prod.fst (Option.some.inj h); cases h1; done) | (have h2:=congrArg Prod.snd (Option.some.inj h); simp only at h2; subst h2; show _=_; kernel_rfl)
  | 3,h=>first | (cases h; done) | (have h1:=congrArg Prod.fst (Option.some.inj h); cases h1; done) | (have h2:=congrArg Prod.snd (Option.some.inj h); simp only at h2; subst h2; show _=_; kernel_rfl)
  | 4,h=>first | (cases h; done) | (have h1:=congrArg Prod.fst (Option.some.inj h); cases h1; done) | (have h2:=congrArg Prod.snd (Option.some.inj h); simp only at h2; subst h2; show _=_; kernel_rfl)
  | 5,h=>first | (cases h; done) | (have h1:=congrArg Prod.fst (Option.some.inj h); cases h1; done) | (have h2:=congrArg Prod.snd (Option.some.inj h); simp only at h2; subst h2; show _=_; kernel_rfl)
  | 6,h=>first | (cases h; done) | (have h1:=congrArg Prod.fst (Option.some.inj h); cases h1; done) | (have h2:=congrArg Prod.snd (Option.some.inj h); simp only at h2; subst h2; show _=_; kernel_rfl)
  | i+7,h=>cases h
theorem fm15:∀ (W i:Nat) (off:Nat),(slotsC W)[i]?=some (true,off)→∀ (o c:GOp) (fs:List (List AV)) (ws:List ByteArray) (n:Int) (v:List Int),tReg zak zT 15 ⟨[(1,AV.fp (nGOp o)),(5,AV.loc 5 31 0 0),(7,AV.row 22 2 0 (slotsC W).length),(8,AV.row 8 1 0 (List.length (List.map nStr ws))),(9,I i),(10,AV.loc 10 2 0 0),(28,AV.sl 2 fs),(29,I n),(30,I i)],[(5,⟨31,zaf,[nGOp c],true⟩),(8,⟨1,zav,List.map nStr ws,false⟩),(10,⟨2,zad,[[AV.v (.pointer none),AV.fp [AV.sl 1 (List.map zai v)]]],true⟩),(22,⟨2,zad,tsA W,true⟩)]⟩ =
  chk ((0:Int)≤(i:Nat)) (chk (((i:Nat):Int) < ((slotsC W).length:Nat)) (some ⟨[(1,AV.fp (nGOp o)),(5,AV.loc 5 31 0 0),(7,AV.row 22 2 0 (slotsC W).length),(8,AV.row 8 1 0 (List.length (List.map nStr ws))),(28,AV.sl 2 fs),(29,I n),(30,I i)],[(5,⟨31,zaf,[nGOp (putL v off c)],true⟩),(8,⟨1,zav,List.map nStr ws,false⟩),(22,⟨2,zad,tsA W,true⟩)]⟩)):=by
 intro W i off h o c fs ws n v
 have hW:W < 12:=by
  rcases Nat.lt_or_ge W 12 with q | q
  · exact q
  · rw [show slotsC W=[] from by unfold slotsC; split <;> first | omega | rfl] at h; simp at h
 rcases lt12 hW with rfl | rfl | rfl | rfl | rfl | rfl | rfl | rfl | rfl | rfl | rfl | rfl
 all_goals
  match i,h with
  | 0,h=>first | (cases h; done) | (have h1:=congrArg Prod.fst (Option.some.inj h); cases h1; done) | (have h2:=congrArg Prod.snd (Option.some.inj h); simp only at h2; subst h2; show _=_; kernel_rfl)
  | 1,h=>first | (cases h; done) | (have h1:=congrArg Prod.fst (Option.some.inj h); cases h1; done) | (have h2:=congrArg Prod.snd (Option.some.inj h); simp only at h2; subst h2; show _=_; kernel_rfl)
  | 2,h=>first | (cases h; done) | (have h1:=congrArg Prod.fst (Option.some.inj h); cases h1; done) | (have h2:=congrArg Prod.snd (Option.some.inj h); simp only at h2; subst h2; show _=_; kernel_rfl)
  | 3,h=>first | (cases h; done) | (have h1:=congrArg Prod.fst (Option.some.inj h); cases h1; done) | (have h2:=congrArg Prod.snd (Option.some.inj h); simp only at h2; subst h2; show _=_; kernel_rfl)
  | 4,h=>first | (cases h; done) | (have h1:=congrArg Prod.fst (Option.some.inj h); cases h1; done) | (have h2:=congrArg Prod.snd (Option.some.inj h); simp only at h2; subst h2; show _=_; kernel_rfl)
  | 5,h=>first | (cases h; done) | (have h1:=congrArg Prod.fst (Option.some.inj h); cases h1; done) | (have h2:=congrArg Prod.snd (Option.some.inj h); simp only at h2; subst h2; show _=_; kernel_rfl)
  | 6,h=>first | (cases h; done) | (have h1:=congrArg Prod.fst (Option.some.inj h); cases h1; done) | (have h2:=congrArg Prod.snd (Option.some.inj h); simp only at h2; subst h2; show _=_; kernel_rfl)
  | i+7,h=>cases h
end Go.Proofs.YtdclabgakicjeaaDoor
namespace Go.Proofs.YtdclabgakicjeaaDoor
open Go.Ab
set_option maxRecDepth 100000
abbrev nilOp:List AV:=[I 0,I 0,I 0,I 0,I 0,I 0,I 0,I 0,I 0,AV.v (.slice none 0 0),AV.v (.slice none 0 0),I 0,I 0,I 0,I 0,I 0,I 0,I 0,I 0,AV.v (.slice none 0 0),I 0,I 0,I 0,I 0,I 0,I 0,I 0,I 0,AV.v (.slice none 0 0),I 0,I 0]
def tsP (w:Nat):List (List AV):=(slotsC w).map fun p=>if p.1 then [.v (.pointer none),.loc 7 31 0 p.2] else [.loc 7 31 0 p.2,.v (.pointer none)]
theorem pz0 (s:ByteArray):tReg zam zT 0 ⟨[(0,AV.v (.string s))],[]⟩=(some ⟨[(0,AV.v (.string s)),(2,AV.loc 2 31 0 0)],[(2,⟨31,zaf,[nilOp],true⟩)]⟩):=by kernel_rfl
theorem pz1 (s:ByteArray):tReg zam zT 1 ⟨[(0,AV.v (.string s)),(2,AV.loc 2 31 0 0)],[(2,⟨31,zaf,[nilOp],true⟩)]⟩=(callD zdq (cw zde [AV.v (.string s),AV.v (.string ({ data:={ toList:=[32] } }))] []) fun (r0:(List ByteArray))=>some ⟨[(2,AV.loc 2 31 0 0),(4,AV.row 11 1 0 (List.length (List.map nStr r0)))],[(2,⟨31,zaf,[nilOp],true⟩),(11,⟨1,zav,List.map nStr r0,false⟩)]⟩):=by kernel_rfl
theorem pz10 (c:GOp) (ws:List ByteArray) (W:Nat) (hW:W < 12) (n:Int) (i:Int):tReg zam zT 10 ⟨[(2,AV.loc 2 31 0 0),(4,AV.sl 1 (List.map nStr ws)),(7,AV.loc 7 31 0 0),(32,AV.row 32 2 0 (slotsC W).length),(33,I n),(34,I i)],[(2,⟨31,zaf,[nilOp],true⟩),(7,⟨31,zaf,[nGOp c],true⟩),(32,⟨2,zad,tsP W,true⟩)]⟩=(some ⟨[(2,AV.loc 2 31 0 0),(4,AV.sl 1 (List.map nStr ws)),(7,AV.loc 7 31 0 0),(32,AV.row 32 2 0 (slotsC W).length),(33,I n),(34,I i),(35,B (decide (i < n)))],[(2,⟨31,zaf,[nilOp],true⟩),(7,⟨31,zaf,[nGOp c],true⟩),(32,⟨2,zad,tsP W,true⟩)]⟩):=by rcases lt12 hW with rfl | rfl | rfl | rfl | rfl | rfl | rfl | rfl | rfl | rfl | rfl | rfl <;> kernel_rfl
theorem pz12l (c:GOp) (ws:List ByteArray) (W:Nat) (hW:W < 12) (n:Int) (i:Int) (off:Nat):tReg zam zT 12 ⟨[(2,AV.loc 2 31 0 0),(4,AV.sl 1 (List.map nStr ws)),(7,AV.loc 7 31 0 0),(8,I i),(9,AV.loc 9 2 0 0),(32,AV.row 32 2 0 (slotsC W).length),(33,I n),(34,I i)],[(2,⟨31,zaf,[nilOp],true⟩),(7,⟨31,zaf,[nGOp c],true⟩),(9,⟨2,zad,[[AV.v (.pointer none),AV.loc 7 31 0 off]],true⟩),(32,⟨2,zad,tsP W,true⟩)]⟩=(chk ((0:Int)≤(w64 (i+1)))<|
 elemD dStr (List.map nStr ws) ((w64 (i+1)).toNat) fun (c0:ByteArray) =>
 callD zce (cw zbK [AV.agg [AV.v (.pointer none),AV.loc 1000 31 0 off],AV.v (.string c0)] [(1000,⟨31,zaf,[nGOp c],true⟩)]) fun (r1:Bool×GOp) =>
 some ⟨[(2,AV.loc 2 31 0 0),(4,AV.sl 1 (List.map nStr ws)),(7,AV.loc 7 31 0 0),(32,AV.row 32 2 0 (slotsC W).length),(33,I n),(34,I i),(46,B (!r1.fst))],[(2,⟨31,zaf,[nilOp],true⟩),(7,⟨31,zaf,[nGOp r1.snd],true⟩),(32,⟨2,zad,tsP W,true⟩)]⟩):=by
 rcases lt12 hW with rfl | rfl | rfl | rfl | rfl | rfl | rfl | rfl | rfl | rfl | rfl | rfl <;> kernel_rfl
theorem pz12n (c:GOp) (ws:List ByteArray) (W:Nat) (hW:W < 12) (n:Int) (i:Int) (off:Nat):tReg zam zT 12 ⟨[(2,AV.loc 2 31 0 0),(4,AV.sl 1 (List.map nStr ws)),(7,AV.loc 7 31 0 0),(8,I i),(9,AV.loc 9 2 0 0),(32,AV.row 32 2 0 (slotsC W).length),(33,I n),(34,I i)],[(2,⟨31,zaf,[nilOp],true⟩),(7,⟨31,zaf,[nGOp c],true⟩),(9,⟨2,zad,[[AV.loc 7 31 0 off,AV.v (.pointer none)]],true⟩),(32,⟨2,zad,tsP W,true⟩)]⟩=(chk ((0:Int)≤(w64 (i+1)))<|
 elemD dStr (List.map nStr ws) ((w64 (i+1)).toNat) fun (c0:ByteArray) =>
 callD zce (cw zbK [AV.agg [AV.loc 1000 31 0 off,AV.v (.pointer none)],AV.v (.string c0)] [(1000,⟨31,zaf,[nGOp c],true⟩)]) fun (r1:Bool×GOp) =>
 some ⟨[(2,AV.loc 2 31 0 0),(4,AV.sl 1 (List.map nStr ws)),(7,AV.loc 7 31 0 0),(32,AV.row 32 2 0 (slotsC W).length),(33,I n),(34,I i),(46,B (!r1.fst))],[(2,⟨31,zaf,[nilOp],true⟩),(7,⟨31,zaf,[nGOp r1.snd],true⟩),(32,⟨2,zad,tsP W,true⟩)]⟩):=by
 rcases lt12 hW with rfl | rfl | rfl | rfl | rfl | rfl | rfl | rfl | rfl | rfl | rfl | rfl <;> kernel_rfl
theorem pz13:tReg zam zT 13 ⟨[(2,AV.loc 2 31 0 0)],[(2,⟨31,zaf,[nilOp],true⟩)]⟩=(some ⟨[(2,AV.loc 2 31 0 0),(3,I 7)],[(2,⟨31,zaf,[nilOp],true⟩)]⟩):=by kernel_rfl
theorem pz14 (c:GOp) (ws:List ByteArray) (W:Nat) (hW:W < 12) (n:Int) (i:Int):tReg zam zT 14 ⟨[(2,AV.loc 2 31 0 0),(4,AV.sl 1 (List.map nStr ws)),(7,AV.loc 7 31 0 0),(32,AV.row 32 2 0 (slotsC W).length),(33,I n),(34,I i)],[(2,⟨31,zaf,[nilOp],true⟩),(7,⟨31,zaf,[nGOp c],true⟩),(32,⟨2,zad,tsP W,true⟩)]⟩=(some ⟨[(2,AV.loc 2 31 0 0),(4,AV.sl 1 (List.map nStr ws)),(7,AV.loc 7 31 0 0),(32,AV.row 32 2 0 (slotsC W).length),(33,I n),(34,I (w64 (i+1)))],[(2,⟨31,zaf,[nilOp],true⟩),(7,⟨31,zaf,[nGOp c],true⟩),(32,⟨2,zad,tsP W,true⟩)]⟩):=by rcases lt12 hW with rfl | rfl | rfl | rfl | rfl | rfl | rfl | rfl | rfl | rfl | rfl | rfl <;> kernel_rfl
theorem pz15 (c:GOp):tReg zam zT 15 ⟨[(2,AV.loc 2 31 0 0),(7,AV.loc 7 31 0 0)],[(2,⟨31,zaf,[nilOp],true⟩),(7,⟨31,zaf,[nGOp c],true⟩)]⟩=(some ⟨[(2,AV.loc 2 31 0 0),(3,I 0)],[(2,⟨31,zaf,[nGOp c],true⟩)]⟩):=by kernel_rfl
theorem pz16 (ws:List ByteArray) (i:Int):tReg zam zT 16 ⟨[(2,AV.loc 2 31 0 0),(4,AV.sl 1 (List.map nStr ws)),(12,AV.agg (za1.map AV.v)),(13,I i)],[(2,⟨31,zaf,[nilOp],true⟩)]⟩=(some ⟨[(2,AV.loc 2 31 0 0),(4,AV.sl 1 (List.map nStr ws)),(12,AV.agg (za1.map AV.v)),(13,I (w64 (i+1)))],[(2,⟨31,zaf,[nilOp],true⟩)]⟩):=by kernel_rfl
theorem pz17:tReg zam zT 17 ⟨[(2,AV.loc 2 31 0 0)],[(2,⟨31,zaf,[nilOp],true⟩)]⟩=(some ⟨[(2,AV.loc 2 31 0 0),(3,I 7)],[(2,⟨31,zaf,[nilOp],true⟩)]⟩):=by kernel_rfl
theorem pz3 (ws:List ByteArray) (i:Int):tReg zam zT 3 ⟨[(2,AV.loc 2 31 0 0),(4,AV.sl 1 (List.map nStr ws)),(12,AV.agg (za1.map AV.v)),(13,I i)],[(2,⟨31,zaf,[nilOp],true⟩)]⟩=(some ⟨[(2,AV.loc 2 31 0 0),(4,AV.sl 1 (List.map nStr ws)),(12,AV.agg (za1.map AV.v)),(13,I i),(14,B (decide (i < 12)))],[(2,⟨31,zaf,[nilOp],true⟩)]⟩):=by kernel_rfl
theorem pz5 (ws:List ByteArray) (i:Int) (s:ByteArray) (n:Int):tReg zam zT 5 ⟨[(2,AV.loc 2 31 0 0),(4,AV.sl 1 (List.map nStr ws)),(5,I i),(6,AV.loc 6 2 0 0),(12,AV.agg (za1.map AV.v)),(13,I i)],[(2,⟨31,zaf,[nilOp],true⟩),(6,⟨2,zdr,[zbQ (⟨s,n⟩)],true⟩)]⟩=(chk ((0:Int)≤0)<|
 elemD dStr (List.map nStr ws) (Int.toNat 0) fun (c0:ByteArray) =>
 some ⟨[(2,AV.loc 2 31 0 0),(4,AV.sl 1 (List.map nStr ws)),(5,I i),(6,AV.loc 6 2 0 0),(12,AV.agg (za1.map AV.v)),(13,I i),(22,B (!s == c0))],[(2,⟨31,zaf,[nilOp],true⟩),(6,⟨2,zdr,[zbQ (⟨s,n⟩)],true⟩)]⟩):=by kernel_rfl
theorem pz6 (ws:List ByteArray) (i:Int) (s:ByteArray) (n:Int):tReg zam zT 6 ⟨[(2,AV.loc 2 31 0 0),(4,AV.sl 1 (List.map nStr ws)),(5,I i),(6,AV.loc 6 2 0 0)],[(2,⟨31,zaf,[nilOp],true⟩),(6,⟨2,zdr,[zbQ (⟨s,n⟩)],true⟩)]⟩=(some ⟨[(2,AV.loc 2 31 0 0),(4,AV.sl 1 (List.map nStr ws)),(5,I i),(27,B ((↑(List.map nStr ws).length:Int) != n))],[(2,⟨31,zaf,[nilOp],true⟩)]⟩):=by kernel_rfl
theorem pz7:tReg zam zT 7 ⟨[(2,AV.loc 2 31 0 0)],[(2,⟨31,zaf,[nilOp],true⟩)]⟩=(some ⟨[(2,AV.loc 2 31 0 0),(3,I 7)],[(2,⟨31,zaf,[nilOp],true⟩)]⟩):=by kernel_rfl
theorem pz8 (ws:List ByteArray) (i:Int):tReg zam zT 8 ⟨[(2,AV.loc 2 31 0 0),(4,AV.sl 1 (List.map nStr ws)),(5,I i)],[(2,⟨31,zaf,[nilOp],true⟩)]⟩=(callD zcx (cw zdb [I i] []) fun (r0:GOp)=>some ⟨[(2,AV.loc 2 31 0 0),(4,AV.sl 1 (List.map nStr ws)),(5,I i),(7,AV.loc 7 31 0 0)],[(2,⟨31,zaf,[nilOp],true⟩),(7,⟨31,zaf,[nGOp r0],true⟩)]⟩):=by kernel_rfl
theorem pz4 (W:Nat) (hW:W < 12) (ws:List ByteArray):tReg zam zT 4 ⟨[(2,AV.loc 2 31 0 0),(4,AV.sl 1 (List.map nStr ws)),(12,AV.agg (za1.map AV.v)),(13,I W)],[(2,⟨31,zaf,[nilOp],true⟩)]⟩ =
  chk ((0:Int)≤(W:Nat)) (chk (((W:Nat):Int) < ((12:Nat):Int)) (elemD zfH (List.map zbQ (formsT.map fun p=>⟨tx p.1,p.2⟩)) ((W:Nat):Int).toNat fun (c0:zbO) =>
  some ⟨[(2,AV.loc 2 31 0 0),(4,AV.sl 1 (List.map nStr ws)),(5,I W),(6,AV.loc 6 2 0 0),(12,AV.agg (za1.map AV.v)),(13,I W)],[(2,⟨31,zaf,[nilOp],true⟩),(6,⟨2,zdr,[zbQ c0],true⟩)]⟩)):=by
 rcases lt12 hW with rfl | rfl | rfl | rfl | rfl | rfl | rfl | rfl | rfl | rfl | rfl | rfl <;> kernel_rfl
theorem pz11:∀ (W i:Nat) (p:Bool×Nat),(slotsC W)[i]?=some p→∀ (c:GOp) (ws:List ByteArray) (n:Int),tReg zam zT 11 ⟨[(2,AV.loc 2 31 0 0),(4,AV.sl 1 (List.map nStr ws)),(7,AV.loc 7 31 0 0),(32,AV.row 32 2 0 (slotsC W).length),(33,I n),(34,I i)],[(2,⟨31,zaf,[nilOp],true⟩),(7,⟨31,zaf,[nGOp c],true⟩),(32,⟨2,zad,tsP W,true⟩)]⟩ =
  chk ((0:Int)≤(i:Nat)) (chk (((i:Nat):Int) < ((slotsC W).length:Nat)) (some ⟨[(2,AV.loc 2 31 0 0),(4,AV.sl 1 (List.map nStr ws)),(7,AV.loc 7 31 0 0),(8,I i),(9,AV.loc 9 2 0 0),(32,AV.row 32 2 0 (slotsC W).length),(33,I n),(34,I i)],[(2,⟨31,zaf,[nilOp],true⟩),(7,⟨31,zaf,[nGOp c],true⟩),(9,⟨2,zad,[if p.1 then [AV.v (.pointer none),AV.loc 7 31 0 p.2] else [AV.loc 7 31 0 p.2,AV.v (.pointer none)]],true⟩),(32,⟨2,zad,tsP W,true⟩)]⟩)):=by
 intro W i p h c ws n
 have hW:W < 12:=by
  rcases Nat.lt_or_ge W 12 with q | q
  · exact q
  · rw [show slotsC W=[] from by unfold slotsC; split <;> first | omega | rfl] at h; simp at h
 rcases lt12 hW with rfl | rfl | rfl | rfl | rfl | rfl | rfl | rfl | rfl | rfl | rfl | rfl
 all_goals
  match i,h with
  | 0,h=>first | (cases h; done) | (injection h with h; subst h; show _=_; kernel_rfl)
  | 1,h=>first | (cases h; done) | (injection h with h; subst h; show _=_; kernel_rfl)
  | 2,h=>first | (cases h; done) | (injection h with h; subst h; show _=_; kernel_rfl)
  | 3,h=>first | (cases h; done) | (injection h with h; subst h; show _=_; kernel_rfl)
  | 4,h=>first | (cases h; done) | (injection h with h; subst h; show _=_; kernel_rfl)
  | 5,h=>first | (cases h; done) | (injection h with h; subst h; show _=_; kernel_rfl)
  | 6,h=>first | (cases h; done) | (injection h with h; subst h; show _=_; kernel_rfl)
  | i+7,h=>cases h
end Go.Proofs.YtdclabgakicjeaaDoor
namespace Go.Ab
open Go.RowKit
variable [Dr]
section
variable {w0:World} {S0:Nat→Prop} {κ0:Kap} {K:Nat→Prop} {N:Nat} {S S':Nat→Prop} {κ κ':Kap} {a:Act} {w w':World} {st st':St} {t:Tab} {m:Mem}
theorem index_op {P:Program} {ops:Array Oper} {Q:Exit→Act→World→Prop} {i d s x z:Nat} {t e:TypeId} {q:IntKind} {n:Int} {es:List (List AV)} {cs:List AV} {X:Sat2} {K':Act→World→Prop}
  (ho:opIs ops i d (.indexAddr t (.tmp s) (.tmp x))) (ht:P.underlying t=some (.slice e)) (hz:szB P e=some z) (hd:d < N) (h:NowP w0 S0 κ0 K N X st a w) (hs:get st.t s=.sl z es) (hx:get st.t x=.v (.int q n))
  (h0:0≤n) (hc:es[n.toNat]?=some cs) (hK:∀ a',NowP w0 S0 κ0 K N X { st with t:=(d,.fp cs) :: st.t } a' w→K' a' w):wpOp P ops Q i K' a w:=by
 obtain ⟨S,κ,h1,h2⟩:=h; obtain ⟨o,o1,o2,o3,o4⟩:=ho.get; have hvs:=h1.slots s; have hvx:=h1.slots x; rw [hs] at hvs; rw [hx] at hvx
 have hi:aIndex P t (.sl z es) (.v (.int q n))=some { val:=.fp cs }:=by unfold aIndex; simp only [ht,hz,h0,hc,and_self,if_true]
 obtain ⟨y,e1,e2,_⟩:=zh2 (w:=w) hi hvs hvx; refine zhT (w':=w) (y:=y) o1 o4 ?_ ?_
 · have:(Instr.indexAt t (a.eval (.tmp s)) (a.eval (.tmp x))).run P w=.ok y w:=e1; simp [execOp,o3,this]
 · rw [o2]; exact hK _ ⟨S,κ,h1.put hd _ _ e2,h2⟩
theorem GoodS.reent (h:GoodS w0 S0 κ0 K N S κ ⟨t,m⟩ a w) {B:Nat} {ent ent':Ent} (hB:look m B=some ent) (hE:EntAt S κ (fun b=>(look m b).isSome=true) w (κ B) ent'):GoodS w0 S0 κ0 K N S κ ⟨t,repM (B,ent') m⟩ a w:=by
 have hlook:∀ c,look (repM (B,ent') m) c=if c=B then some ent' else look m c:=fun c=>zhd (B,ent') m c (by simp [hB])
 have hD:(fun b=>(look (repM (B,ent') m) b).isSome=true)=fun b=>(look m b).isSome=true:=by
  funext b; rw [hlook]; by_cases hb:b=B
  · subst hb; simp [hB]
  · simp [hb]
 have hD':∀ b,(look (repM (B,ent') m) b).isSome=true→(look m b).isSome=true:=fun b hb=>by have:=congrFun hD b; exact this.mp hb
 exact { h with
  parK:=fun b hb hl=>h.parK b hb (hD' b hl)
  own:=fun b g c hb hl hk=>h.own b g c hb (hD' b hl) hk
  inj:=fun b b' g c c' hl hl' hk hk'=>h.inj b b' g c c' (hD' b hl) (hD' b' hl') hk hk'
  ents:=fun b e hb=>by
   show EntAt S κ (fun b=>(look (repM (B,ent') m) b).isSome=true) w (κ b) e; rw [hD]; have hb':look (repM (B,ent') m) b=some e:=hb; rw [hlook] at hb'; split at hb'
   · rename_i hbB; subst hbB; injection hb' with hb'; subst hb'; exact hE
   · exact h.ents b e hb'
  slots:=fun k=>by
   show VRel S κ (fun b=>(look (repM (B,ent') m) b).isSome=true) w _ _; rw [hD]
   exact h.slots k }
theorem EntAt.boxed {D:Nat→Prop} {kb:Option (Nat×Nat)} {z:Nat} {e:TypeId} {es es':List (List AV)} {κ':Kap} {D':Nat→Prop} (h:EntAt S κ D w kb ⟨z,e,es,false⟩) (hz:0 < z) (hne:es≠[]) (hlen:es'.length=es.length) (hrow:∀ cs∈es',cs.length=z)
  (hp:∀ (i j:Nat) (cs cs':List AV) (a':AV),es[i]?=some cs→es'[i]?=some cs'→cs'[j]?=some a'→∃ a,cs[j]?=some a∧∀ u,CRel S w a u→VRel S κ' D' w a' u):EntAt S κ' D' w kb ⟨z,e,es',true⟩:=by
 obtain ⟨h1,h2⟩:=h.1 (.inr hz); refine EntAt.of (.inl rfl) ⟨hrow,?_⟩
 cases kb with
 | none=>exact absurd h2.1 hne
 | some gc =>
   obtain ⟨g,c⟩:=gc; obtain ⟨cells,c1,c2,c3,c4,c5,c6⟩:=h2; refine ⟨cells,c1,c2,by rw [hlen]; exact c3,c4,c5,fun i j cs' a' hi hj=>?_⟩; have hil:i < es.length:=by rw [← hlen]; exact (List.getElem?_eq_some_iff.1 hi).1
   obtain ⟨x,hx,hr⟩:=hp i j _ cs' a' (List.getElem?_eq_getElem hil) hi hj; obtain ⟨u,u1,u2,_,u4⟩:=c6 i j _ x (List.getElem?_eq_getElem hil) hx; exact ⟨u,u1,u2,fun _=>hr u (u4 rfl),fun hb=>by cases hb⟩
theorem CRel.view {z:Nat} {es es':List (List AV)} {v:Value} (h:CRel S w (.sl z es) v) (hlen:es'.length=es.length) (hrow:∀ cs∈es',cs.length=z)
  (hp:∀ (i j:Nat) (cs cs':List AV) (a':AV),es[i]?=some cs→es'[i]?=some cs'→cs'[j]?=some a'→∃ a,cs[j]?=some a∧∀ u,CRel S w a u→CRel S w a' u):CRel S w (.sl z es') v:=by
 cases h with
 | sl _ _ A len cap u h1 h2 h3 h4 h5 =>
   have hat:∀ (i j:Nat) (cs':List AV) (a':AV),es'[i]?=some cs'→cs'[j]?=some a'→∃ cs a,es[i]?=some cs∧cs[j]?=some a∧∀ u,CRel S w a u→CRel S w a' u:=fun i j cs' a' hi hj=>by
    have hil:i < es.length:=by rw [← hlen]; exact (List.getElem?_eq_some_iff.1 hi).1
    obtain ⟨x,hx,hr⟩:=hp i j _ cs' a' (List.getElem?_eq_getElem hil) hi hj; exact ⟨_,x,List.getElem?_eq_getElem hil,hx,hr⟩
   refine .sl z es' A len cap u (by rw [hlen]; exact h1) h2 hrow ?_ (fun i j cs' a' hi hj=>?_)
   · rcases h4 with h4 | ⟨ad,e1,e2,e3⟩
     · left; subst h4; exact List.eq_nil_of_length_eq_zero (by simpa using hlen)
     · exact .inr ⟨ad,e1,e2,fun i j cs' a' hi hj=>by
        obtain ⟨cs,x,q1,q2,_⟩:=hat i j cs' a' hi hj
        exact e3 i j cs x q1 q2⟩
   · obtain ⟨cs,x,q1,q2,q3⟩:=hat i j cs' a' hi hj; exact q3 _ (h5 i j cs x q1 q2)
theorem CRel.cell {cs:List AV} {g k:Nat} {x:AV} (h:CRel S w (.fp cs) (.pointer (some ⟨g,0,none⟩))) (hx:cs[k]?=some x):CRel S w (.fp [x]) (.pointer (some ⟨g,k,none⟩)):=by
 cases h with
 | fp _ _ u hS hc hr =>
   refine .fp _ _ (fun _=>u k) hS (fun j c hj=>?_) (fun j c hj=>?_)
   · match j,hj with
     | 0,hj =>
       have:=hc k x hx; rw [show (⟨g,k,none⟩:Addr).add 0=⟨g,k,none⟩ from rfl]
       rwa [add_at,Nat.zero_add] at this
     | j+1,hj=>simp at hj
   · match j,hj with
     | 0,hj=>injection hj with hj; subst hj; exact hr k x hx
     | j+1,hj=>simp at hj
theorem Stable.both {X Y:Sat2} (hX:Stable X) (hY:Stable Y):Stable fun S κ L w=>X S κ L w∧Y S κ L w:=
 ⟨fun h h1 h2 h3=>⟨hX.step h.1 h1 h2 h3,hY.step h.2 h1 h2 h3⟩,fun h h1=>⟨hX.kap h.1 h1,hY.kap h.2 h1⟩⟩
theorem Stable.lasts (cs:AV) (v:Value):Stable fun S _ _ w=>CRel S w cs v:=
 ⟨fun h h1 _ h3=>h.mono h1 h3,fun h _=>h⟩
def Away (w0:World) (κ0:Kap) (K:Nat→Prop) (B:Nat) (e:Ent) (g:Nat) (κd:Kap):Sat2:=fun S κ L w=>FarObj S w κd (look [(B,e)])∧Far S κ L w g∧Mine w0 κ0 K g
theorem zic {B:Nat} {e:Ent} {b:Nat} (h:(look [(B,e)] b).isSome=true):b=B:=by
 simp only [look] at h; split at h
 · assumption
 · cases h
theorem Away.stable {B:Nat} {e:Ent} {g c:Nat} {κd:Kap} (hk:κd B=some (g,c)):Stable (Away w0 κ0 K B e g κd):=by
 refine ⟨fun h h1 h2 h3=>?_,fun h h1=>⟨h.1,⟨h.2.1.1,h.2.1.2.1,fun b c' hl hb=>?_⟩,h.2.2⟩⟩
 · obtain ⟨q1,q2⟩:=h2 g h.2.1; refine ⟨h.1.mono h1 h3 (fun b g' c' hl hb=>?_),q2,h.2.2⟩; rw [zic hl,hk] at hb; injection hb with hb; injection hb with hb _; subst hb; exact ⟨q1,q2.2.1⟩
 · obtain ⟨b0,c0,e1,e2⟩:=h1 b g c' hl hb; exact h.2.1.2.2 b0 c0 e1 e2
theorem NowP.leave {B z k:Nat} {e:Ent} (h:NowP w0 S0 κ0 K N (fun _ _ _ _=>True) st a w) (hB:look st.m B=some e) (hB2:B < 1000) (ho:onlyM [(B,e)]=true) (hk:get st.t k=.loc B z 0 0):∃ g c κd,κd B=some (g,c)∧a.tmps.getD k undef=.pointer (some ⟨g,0,none⟩)∧NowP w0 S0 κ0 K N (Away w0 κ0 K B e g κd) (del B st) a w:=by
 obtain ⟨S,κ,h1,_⟩:=h; have hv:=h1.slots k; rw [hk] at hv; obtain ⟨g,c,hd,hκ,e1⟩:=hv.loc_inv
 have hd1:∀ b ent,look [(B,e)] b=some ent→look st.m b=some ent:=fun b ent hb=>by have:=zic (B:=B) (e:=e) (b:=b) (by simp [hb]); subst this; simp only [look,if_true] at hb; rw [hB]; exact hb
 have hlook:∀ b,look (del B st).m b=killL B (look st.m) b:=fun b=>zcp B st.m b
 have hL:∀ b,(look (del B st).m b).isSome=true→(look st.m b).isSome=true∧¬ (look [(B,e)] b).isSome=true:=fun b hb=>by
  rw [hlook] at hb; unfold killL at hb; split at hb
  · cases hb
  · rename_i hne; refine ⟨?_,fun q=>hne (zic q)⟩
    cases hq:look st.m b with
    | none=>rw [hq] at hb; cases hb
    | some _=>rfl
 have hfar:=(h1:Good w0 S0 κ0 K N S κ (get st.t) (look st.m) a w).thingFar hd1 hL B g c (by simp [look]) hκ; refine ⟨g,c,κ,hκ,?_,S,κ,h1.del B,(h1:Good w0 S0 κ0 K N S κ (get st.t) (look st.m) a w).thing hd1 (zo3 ho),hfar.1,hfar.2 hB2⟩; rw [e1]; simp
theorem NowP.back {B g c:Nat} {e:Ent} {κd:Kap} {X:Sat2} (h:NowP w0 S0 κ0 K N (fun S κ L w=>Away w0 κ0 K B e g κd S κ L w∧X S κ L w) st a w) (hk:κd B=some (g,c)) (hB2:B < 1000) (hn:look st.m B=none):∃ S κ,GoodS w0 S0 κ0 K N S κ ⟨st.t,(B,e) :: st.m⟩ a w∧κ B=some (g,c)∧∃ κ1,X S κ1 (look st.m) w:=by
 obtain ⟨S,κ,h1,h2,h3⟩:=h
 have hg:=GoodS.focus (t:=st.t) (m:=st.m) (md:=[(B,e)]) h1 h2.1 (fun b hb=>by rw [zic hb]; exact ⟨hB2,hn⟩) (fun b g' c' hb hkb=>by
  rw [zic hb,hk] at hkb; injection hkb with hkb; injection hkb with e1 _; subst e1
  exact ⟨h2.2.1,h2.2.2⟩)
 refine ⟨S,_,hg,?_,κ,h3⟩; unfold overK; rw [if_pos (by simp [look])]; exact hk
end
end Go.Ab
namespace Go.Proofs.YtdclabgakicjeaaDoor
open Go.Ab Go.Str
set_option maxRecDepth 100000
def fmC:Code:=(zak.fn.body).getD .skip
def fmO (j:Nat):Array Oper:=opsAt j fmC
def fmD (j:Nat):Bool:=drawnAt j fmC
theorem fm_hb:zak.fn.body=some fmC:=by kernel_rfl
theorem fm_shape:fmC=(.seq (.region 0 (fmO 0) (fmD 0)) (.seq (.region 1 (fmO 1) (fmD 1)) (.seq (.seq (.region 2 (fmO 2) (fmD 2)) (.cond (.tmp 16) (.seq (.region 3 (fmO 3) (fmD 3)) .ret) .skip)) (.seq (.region 4 (fmO 4) (fmD 4)) (.seq (.region 5 (fmO 5) false) (.seq (.region 6 (fmO 6) false) (.seq (.seq (.region 7 (fmO 7) (fmD 7)) (.block 0 (.loop (.seq (.region 8 (fmO 8) (fmD 8)) (.seq (.cond (.tmp 31) .skip (.exit 0)) (.seq (.block 1 (.seq (.region 9 (fmO 9) false) (.seq (.region 10 (fmO 10) (fmD 10)) (.seq (.seq (.region 11 (fmO 11) (fmD 11)) (.cond (.tmp 41) (.seq (.region 12 (fmO 12) (fmD 12)) .ret) .skip)) (.seq (.region 13 (fmO 13) (fmD 13)) (.seq (.region 14 (fmO 14) (fmD 14)) (.cond (.tmp 48) (.region 15 (fmO 15) (fmD 15)) (.region 16 (fmO 16) (fmD 16))))))))) (.region 17 (fmO 17) (fmD 17)))))))) (.seq (.seq (.region 18 (fmO 18) (fmD 18)) (.cond (.tmp 73) (.seq (.region 19 (fmO 19) (fmD 19)) .ret) .skip)) (.seq (.region 20 (fmO 20) (fmD 20)) .ret))))))))):=by kernel_rfl
theorem fm_r0:regOf 0 fmC=some (.region 0 (fmO 0) (fmD 0)):=by kernel_rfl
theorem fm_r1:regOf 1 fmC=some (.region 1 (fmO 1) (fmD 1)):=by kernel_rfl
theorem fm_r2:regOf 2 fmC=some (.region 2 (fmO 2) (fmD 2)):=by kernel_rfl
theorem fm_r3:regOf 3 fmC=some (.region 3 (fmO 3) (fmD 3)):=by kernel_rfl
theorem fm_r4:regOf 4 fmC=some (.region 4 (fmO 4) (fmD 4)):=by kernel_rfl
theorem fm_r5:regOf 5 fmC=some (.region 5 (fmO 5) false):=by kernel_rfl
theorem fm_r6:regOf 6 fmC=some (.region 6 (fmO 6) false):=by kernel_rfl
theorem fm_r7:regOf 7 fmC=some (.region 7 (fmO 7) (fmD 7)):=by kernel_rfl
theorem fm_r8:regOf 8 fmC=some (.region 8 (fmO 8) (fmD 8)):=by kernel_rfl
theorem fm_r9:regOf 9 fmC=some (.region 9 (fmO 9) false):=by kernel_rfl
theorem fm_r10:regOf 10 fmC=some (.region 10 (fmO 10) (fmD 10)):=by kernel_rfl
theorem fm_r11:regOf 11 fmC=some (.region 11 (fmO 11) (fmD 11)):=by kernel_rfl
theorem fm_r12:regOf 12 fmC=some (.region 12 (fmO 12) (fmD 12)):=by kernel_rfl
theorem fm_r13:regOf 13 fmC=some (.region 13 (fmO 13) (fmD 13)):=by kernel_rfl
theorem fm_r14:regOf 14 fmC=some (.region 14 (fmO 14) (fmD 14)):=by kernel_rfl
theorem fm_r15:regOf 15 fmC=some (.region 15 (fmO 15) (fmD 15)):=by kernel_rfl
theorem fm_r16:regOf 16 fmC=some (.region 16 (fmO 16) (fmD 16)):=by kernel_rfl
theorem fm_r17:regOf 17 fmC=some (.region 17 (fmO 17) (fmD 17)):=by kernel_rfl
theorem fm_r18:regOf 18 fmC=some (.region 18 (fmO 18) (fmD 18)):=by kernel_rfl
theorem fm_r19:regOf 19 fmC=some (.region 19 (fmO 19) (fmD 19)):=by kernel_rfl
theorem fm_r20:regOf 20 fmC=some (.region 20 (fmO 20) (fmD 20)):=by kernel_rfl
theorem fm_n:zak.fn.ntmps≤1000:=by decide
theorem fm_enters:enters zak.P zbz=true:=by kernel_rfl
def fsA (w:Nat) (o:GOp):List (List AV):=(slotsC w).map fun p=>if p.1 then [.v (.pointer none),.fp [.sl 1 (List.map zai (getL p.2 o))]] else [.fp [I (getN p.2 o)],.v (.pointer none)]
abbrev stF (o c:GOp) (W:Nat) (ws:List ByteArray) (i:Int):St:=⟨[(1,AV.fp (nGOp o)),(5,AV.loc 5 31 0 0),(7,AV.row 22 2 0 (slotsC W).length),(8,AV.row 8 1 0 (List.length (List.map nStr ws))),(28,AV.sl 2 (fsA W o)),(29,I (slotsC W).length),(30,I i)],[(5,⟨31,zaf,[nGOp c],true⟩),(8,⟨1,zav,List.map nStr ws,false⟩),(22,⟨2,zad,tsA W,true⟩)]⟩
abbrev stBad:St:=⟨[(2,.v (.string (tx []))),(3,I 1)],[]⟩
abbrev X0:Sat2:=fun _ _ _ _=>True
theorem fm12:tReg zak zT 12 ⟨[],[]⟩=some stBad:=by kernel_rfl
section
variable {w0:World} {S0:Nat→Prop} {κ0:Kap} {K:Nat→Prop} {a:Act} {w:World}
theorem fmStep {j:Nat} {st st':St} (hr:regOf j fmC=some (.region j (fmO j) (fmD j))) (ht:tReg zak zT j st=some st')
  (h:NowP w0 S0 κ0 K zak.fn.ntmps X0 st a w) {Q:Exit→Act→World→Prop} (hQ:∀ a' w',NowP w0 S0 κ0 K zak.fn.ntmps X0 st' a' w'→Q .normal a' w'):(Code.region j (fmO j) (fmD j)).wp zak.P Q a w:=stepP Stable.none fm_hb fm_n hr ht h hQ
theorem fm9_0 (o c:GOp) (W:Nat) (hW:W < 12) (ws:List ByteArray) (i:Int):tSeg zak zT 9 0 1 (stF o c W ws i)=some ⟨(32,I i) :: (stF o c W ws i).t,(stF o c W ws i).m⟩:=by rcases lt12 hW with rfl | rfl | rfl | rfl | rfl | rfl | rfl | rfl | rfl | rfl | rfl | rfl <;> kernel_rfl
abbrev fmBody:Code:=.seq (.region 9 (fmO 9) false) (.seq (.region 10 (fmO 10) (fmD 10)) (.seq (.seq (.region 11 (fmO 11) (fmD 11)) (.cond (.tmp 41) (.seq (.region 12 (fmO 12) (fmD 12)) .ret) .skip)) (.seq (.region 13 (fmO 13) (fmD 13)) (.seq (.region 14 (fmO 14) (fmD 14)) (.cond (.tmp 48) (.region 15 (fmO 15) (fmD 15)) (.region 16 (fmO 16) (fmD 16)))))))
theorem map_str (ws:List ByteArray) (s:ByteArray):List.map nStr ws++[[AV.v (.string s)]]=List.map nStr (ws++[s]):=by simp [nStr]
theorem map_str2 (ws:List ByteArray) (s:ByteArray):List.map nStr ws++[nStr s]=List.map nStr (ws++[s]):=by simp
theorem fm_round (o c:GOp) (W:Nat) (hW:W < 12) (ws:List ByteArray) (i:Nat) (hws:ws.length < 1000) (p:Bool×Nat) (hp:(slotsC W)[i]?=some p)
  (hN:p.1=false→W64 (getN p.2 o)) (hL:p.1=true→(getL p.2 o).length≤1000∧∀ n∈getL p.2 o,W64 n)
  (h:NowP w0 S0 κ0 K zak.fn.ntmps X0 (stF o c W ws i) a w) {Q:Exit→Act→World→Prop}
  (hok:okW o p→∀ a' w',NowP w0 S0 κ0 K zak.fn.ntmps X0 (stF o (copy1 o c p) W (ws++[tx (wordC o p)]) i) a' w'→Q .normal a' w')
  (hbad:¬ okW o p→∀ a' w',NowP w0 S0 κ0 K zak.fn.ntmps X0 stBad a' w'→Q .ret a' w'):fmBody.wp zak.P Q a w:=by
 have hil:i < (slotsC W).length:=(List.getElem?_eq_some_iff.1 hp).1; have hi2:((i:Nat):Int).toNat=i:=rfl; obtain ⟨pl,off⟩:=p; refine wp_seq (wp_region ?_); have z9:(fmO 9).size=6:=by kernel_rfl
 rw [z9,show List.range 6=List.range' 0 1++(1 :: (List.range' 2 4++[])) from rfl]; refine segP Stable.none fm_hb fm_n fm_r9 (fm9_0 o c W hW ws i) (by rw [z9]; decide) h (fun a1 w1 h1=>?_); rw [wpOps_cons]
 cases pl with
 | false =>
   have hf:(fsA W o)[((i:Nat):Int).toNat]?=some [.fp [I (getN off o)],.v (.pointer none)]:=by unfold fsA; rw [hi2,List.getElem?_map,hp]; rfl
   refine index_op (t:=zhI) (e:=zad) (z:=2) (s:=28) (x:=30) (d:=33) (by unfold opIs; kernel_rfl) (by kernel_rfl) (by kernel_rfl) (by decide) h1 rfl rfl (by omega) hf (fun a2 h2=>?_); have h3:=h2.trim Stable.none [1,5,7,8,28,29,30,32,33] [] (by kernel_rfl) (st':=⟨[(1,AV.fp (nGOp o)),(5,AV.loc 5 31 0 0),(7,AV.row 22 2 0 (slotsC W).length),(8,AV.row 8 1 0 (List.length (List.map nStr ws))),(28,AV.sl 2 (fsA W o)),(29,I (slotsC W).length),(30,I i),(32,I i),(33,AV.fp [AV.fp [I (getN off o)],AV.v (.pointer none)])],(stF o c W ws i).m⟩); refine segP Stable.none fm_hb fm_n fm_r9 (fm9n o c (fsA W o) W hW ws (slotsC W).length i (getN off o)) (by rw [z9]; decide) h3 (fun a4 w4 h4=>?_); have h5:=h4.trim Stable.none [1,5,7,8,9,10,28,29,30] [] (st':=⟨[(1,AV.fp (nGOp o)),(5,AV.loc 5 31 0 0),(7,AV.row 22 2 0 (slotsC W).length),(8,AV.row 8 1 0 (List.length (List.map nStr ws))),(9,I i),(10,AV.loc 10 2 0 0),(28,AV.sl 2 (fsA W o)),(29,I (slotsC W).length),(30,I i)],[(5,⟨31,zaf,[nGOp c],true⟩),(8,⟨1,zav,List.map nStr ws,false⟩),(10,⟨2,zad,[[AV.fp [I (getN off o)],AV.v (.pointer none)]],true⟩),(22,⟨2,zad,tsA W,true⟩)]⟩) (by kernel_rfl); have t10:=fm10n o c (fsA W o) W hW ws (slotsC W).length i (getN off o); rw [c_textN (hN rfl),zb9] at t10; refine wp_seq (fmStep fm_r10 t10 h5 (fun a6 w6 h6=>?_)); refine wp_seq (wp_seq (fmStep fm_r11 (fm11n o c (fsA W o) W hW ws (slotsC W).length i (getN off o) _ _) h6 (fun a7 w7 h7=>?_))); refine wp_cond (h7.bool (b:=!decide (fits (getN off o))) rfl) ?_; by_cases hk:okW o (false,off)
   · rw [show decide (fits (getN off o))=true from decide_eq_true hk,Bool.not_true,iNs]; refine wp_skip ?_; have h8:=h7.trim Stable.none [1,5,7,8,9,10,11,28,29,30] [] rfl; have t13:=fm13n o c (fsA W o) W hW ws (slotsC W).length i (getN off o) (tx (Lib.itoa (getN off o))); rw [zao rfl,zao (by rw [List.length_map]; omega),zao rfl] at t13; refine wp_seq (fmStep fm_r13 t13 h8 (fun a9 w9 h9=>?_)); rw [map_str,map_str2] at h9; refine wp_seq (fmStep fm_r14 (fm14n o c (fsA W o) W hW _ (slotsC W).length i (getN off o)) h9 (fun aA wA hA=>?_)); refine wp_cond (hA.bool (b:=!true) rfl) ?_; rw [iNs]; have hB:=hA.trim Stable.none [1,5,7,8,9,10,28,29,30] [] rfl; have t16:=fm16 W i off hp o c (fsA W o) (ws++[tx (Lib.itoa (getN off o))]) (slotsC W).length (getN off o); rw [cPQ,cPQ] at t16; exact fmStep fm_r16 t16 hB (fun aC wC hC=>hok hk aC wC (by simpa only [copy1,wordC,if_true,if_false,Bool.false_eq_true] using hC))
   · rw [show decide (fits (getN off o))=false from decide_eq_false hk,Bool.not_false,if_pos rfl]; have h8:=h7.trim Stable.none [] [5,8,10,22] (st':=⟨[],[]⟩) (by kernel_rfl); exact wp_seq (fmStep fm_r12 fm12 h8 (fun aC wC hC=>wp_ret (hbad hk aC wC hC)))
 | true =>
   have hf:(fsA W o)[((i:Nat):Int).toNat]?=some [.v (.pointer none),.fp [.sl 1 (List.map zai (getL off o))]]:=by unfold fsA; rw [hi2,List.getElem?_map,hp]; rfl
   refine index_op (t:=zhI) (e:=zad) (z:=2) (s:=28) (x:=30) (d:=33) (by unfold opIs; kernel_rfl) (by kernel_rfl) (by kernel_rfl) (by decide) h1 rfl rfl (by omega) hf (fun a2 h2=>?_); have h3:=h2.trim Stable.none [1,5,7,8,28,29,30,32,33] [] (by kernel_rfl) (st':=⟨[(1,AV.fp (nGOp o)),(5,AV.loc 5 31 0 0),(7,AV.row 22 2 0 (slotsC W).length),(8,AV.row 8 1 0 (List.length (List.map nStr ws))),(28,AV.sl 2 (fsA W o)),(29,I (slotsC W).length),(30,I i),(32,I i),(33,AV.fp [AV.v (.pointer none),AV.fp [AV.sl 1 (List.map zai (getL off o))]])],(stF o c W ws i).m⟩); refine segP Stable.none fm_hb fm_n fm_r9 (fm9l o c (fsA W o) W hW ws (slotsC W).length i (getL off o)) (by rw [z9]; decide) h3 (fun a4 w4 h4=>?_); obtain ⟨sx,hs1,hs2⟩:=c_textL (getL off o) (hL rfl).1 (hL rfl).2; have h5:=h4.trim Stable.none [1,5,7,8,9,10,28,29,30] [] (st':=⟨[(1,AV.fp (nGOp o)),(5,AV.loc 5 31 0 0),(7,AV.row 22 2 0 (slotsC W).length),(8,AV.row 8 1 0 (List.length (List.map nStr ws))),(9,I i),(10,AV.loc 10 2 0 0),(28,AV.sl 2 (fsA W o)),(29,I (slotsC W).length),(30,I i)],[(5,⟨31,zaf,[nGOp c],true⟩),(8,⟨1,zav,List.map nStr ws,false⟩),(10,⟨2,zad,[[AV.v (.pointer none),AV.fp [AV.sl 1 (List.map zai (getL off o))]]],true⟩),(22,⟨2,zad,tsA W,true⟩)]⟩) (by kernel_rfl); have t10:=fm10l o c (fsA W o) W hW ws (slotsC W).length i (getL off o); rw [hs1,zb9] at t10; refine wp_seq (fmStep fm_r10 t10 h5 (fun a6 w6 h6=>?_)); refine wp_seq (wp_seq (fmStep fm_r11 (fm11l o c (fsA W o) W hW ws (slotsC W).length i (getL off o) _ _) h6 (fun a7 w7 h7=>?_))); refine wp_cond (h7.bool (b:=!decide ((getL off o).length≤300∧∀ n∈getL off o,fits n)) rfl) ?_; by_cases hk:okW o (true,off)
   · rw [show decide ((getL off o).length≤300∧∀ n∈getL off o,fits n)=true from decide_eq_true hk,Bool.not_true,iNs]; refine wp_skip ?_; have h8:=h7.trim Stable.none [1,5,7,8,9,10,11,28,29,30] [] rfl; have t13:=fm13l o c (fsA W o) W hW ws (slotsC W).length i (getL off o) (sx); rw [zao rfl,zao (by rw [List.length_map]; omega),zao rfl] at t13; refine wp_seq (fmStep fm_r13 t13 h8 (fun a9 w9 h9=>?_)); rw [map_str,map_str2] at h9; refine wp_seq (fmStep fm_r14 (fm14l o c (fsA W o) W hW _ (slotsC W).length i (getL off o)) h9 (fun aA wA hA=>?_)); refine wp_cond (hA.bool (b:=true) rfl) ?_; rw [if_pos rfl]; have hB:=hA.trim Stable.none [1,5,7,8,9,10,28,29,30] [] rfl; have t16:=fm15 W i off hp o c (fsA W o) (ws++[sx]) (slotsC W).length (getL off o); rw [cPQ,cPQ] at t16; exact fmStep fm_r15 t16 hB (fun aC wC hC=>hok hk aC wC (by simpa only [copy1,wordC,if_true,if_false,Bool.false_eq_true,hs2 hk] using hC))
   · rw [show decide ((getL off o).length≤300∧∀ n∈getL off o,fits n)=false from decide_eq_false hk,Bool.not_false,if_pos rfl]; have h8:=h7.trim Stable.none [] [5,8,10,22] (st':=⟨[],[]⟩) (by kernel_rfl); exact wp_seq (fmStep fm_r12 fm12 h8 (fun aC wC hC=>wp_ret (hbad hk aC wC hC)))
def wsA (W:Nat) (o:GOp) (i:Nat):List ByteArray:=tx (kw W) :: ((slotsC W).take i).map fun p=>tx (wordC o p)
def cpA (W:Nat) (o:GOp) (i:Nat):GOp:=((slotsC W).take i).foldl (copy1 o) (blankS W)
theorem zhh (W:Nat):(slotsC W).length≤7:=by unfold slotsC; split <;> decide
theorem wsA_succ {W:Nat} {o:GOp} {i:Nat} {p:Bool×Nat} (hp:(slotsC W)[i]?=some p):wsA W o (i+1)=wsA W o i++[tx (wordC o p)]:=by unfold wsA; rw [List.take_add_one,hp]; simp
theorem cpA_succ {W:Nat} {o:GOp} {i:Nat} {p:Bool×Nat} (hp:(slotsC W)[i]?=some p):cpA W o (i+1)=copy1 o (cpA W o i) p:=by unfold cpA; rw [List.take_add_one,hp]; simp
abbrev stE (o c:GOp) (ws:List ByteArray):St:=⟨[(1,AV.fp (nGOp o)),(5,AV.loc 5 31 0 0),(8,AV.row 8 1 0 (List.length (List.map nStr ws)))],[(5,⟨31,zaf,[nGOp c],true⟩),(8,⟨1,zav,List.map nStr ws,false⟩)]⟩
theorem fm_loop (o:GOp) (ho:OpW o) (W:Nat) (hW:W < 12)
  (h:NowP w0 S0 κ0 K zak.fn.ntmps X0 ⟨[(1,AV.fp (nGOp o)),(5,AV.loc 5 31 0 0),(6,AV.sl 2 (fsA W o)),(7,AV.row 22 2 0 (slotsC W).length),(8,AV.row 8 1 0 (List.length (List.map nStr (wsA W o 0))))],[(5,⟨31,zaf,[nGOp (cpA W o 0)],true⟩),(8,⟨1,zav,List.map nStr (wsA W o 0),false⟩),(22,⟨2,zad,tsA W,true⟩)]⟩ a w) {Q:Exit→Act→World→Prop}
  (hok:(∀ p∈slotsC W,okW o p)→∀ a' w',NowP w0 S0 κ0 K zak.fn.ntmps X0 (stE o (copyS W o) (wsA W o (slotsC W).length)) a' w'→Q .normal a' w')
  (hbad:¬ (∀ p∈slotsC W,okW o p)→∀ a' w',NowP w0 S0 κ0 K zak.fn.ntmps X0 stBad a' w'→Q .ret a' w'):(Code.seq (.region 7 (fmO 7) (fmD 7)) (.block 0 (.loop (.seq (.region 8 (fmO 8) (fmD 8)) (.seq (.cond (.tmp 31) .skip (.exit 0)) (.seq (.block 1 fmBody) (.region 17 (fmO 17) (fmD 17)))))))).wp zak.P Q a w:=by
 have hlen:=zhh W; have hfl:(fsA W o).length=(slotsC W).length:=by unfold fsA; rw [List.length_map]
 refine wp_seq (fmStep fm_r7 (fm7 o (cpA W o 0) (fsA W o) W hW (wsA W o 0)) h (fun a1 w1 h1=>?_)); rw [hfl] at h1; refine wp_block (wp_loop (fun a w=>∃ k:Nat,k≤(slotsC W).length∧(∀ p∈(slotsC W).take k,okW o p)∧NowP w0 S0 κ0 K zak.fn.ntmps X0 (stF o (cpA W o k) W (wsA W o k) k) a w) (fun a _=>(slotsC W).length - cnt a 30) ⟨0,Nat.zero_le _,by simp,h1⟩ ?_)
 rintro a w ⟨k,hk,hall,hn⟩
 have hc0:cnt a 30=k:=by rw [hn.cnt (n:=(k:Int)) rfl]; simp
 refine wp_seq (fmStep fm_r8 (fm8 o (cpA W o k) (fsA W o) W hW (wsA W o k) (slotsC W).length k) hn (fun a2 w2 h2=>?_)); refine wp_seq (wp_cond (h2.bool (b:=decide ((k:Int) < (slotsC W).length)) rfl) ?_); by_cases hlt:k < (slotsC W).length
 · rw [decide_eq_true (by omega),if_pos rfl]; refine wp_skip ?_; have h3:=h2.trim Stable.none [1,5,7,8,28,29,30] [] (st':=stF o (cpA W o k) W (wsA W o k) k) (by kernel_rfl); have hp:(slotsC W)[k]?=some (slotsC W)[k]:=List.getElem?_eq_getElem hlt; refine wp_seq (wp_block (fm_round o (cpA W o k) W hW (wsA W o k) k (by unfold wsA; simp; omega) (slotsC W)[k] hp (fun _=>ho.num _) (fun _=>ho.list _) h3 (fun hok1 a4 w4 h4=>?_) (fun hbad1 a4 w4 h4=>?_)))
   · rw [← cpA_succ hp,← wsA_succ hp] at h4; refine fmStep fm_r17 (fm17 o (cpA W o (k+1)) (fsA W o) W hW (wsA W o (k+1)) (slotsC W).length k) h4 (fun a5 w5 h5=>?_); rw [w6Q] at h5; refine ⟨⟨k+1,hlt,?_,by exact_mod_cast h5⟩,?_⟩
     · intro p hm; rw [List.take_add_one,hp] at hm; rcases List.mem_append.1 hm with hm | hm
       · exact hall p hm
       · have:p=(slotsC W)[k]:=by simpa using hm
         rw [this]; exact hok1
     · have:cnt a5 30=k+1:=by rw [h5.cnt (n:=(k:Int)+1) rfl]; omega
       show (slotsC W).length - cnt a5 30 < (slotsC W).length - cnt a 30; omega
   · exact hbad (fun q=>hbad1 (q _ (List.getElem_mem hlt))) a4 w4 h4
 · rw [decide_eq_false (by omega),iNs]; have hkl:k=(slotsC W).length:=by omega
   subst hkl; rw [List.take_length] at hall; have e:cpA W o (slotsC W).length=copyS W o:=by unfold cpA copyS; rw [List.take_length]
   rw [e] at h2; exact wp_exit (hok hall _ _ (h2.trim Stable.none [1,5,8] [22] (by kernel_rfl)))
theorem fsA_cell {W i off:Nat} {b:Bool} (h:(slotsC W)[i]?=some (b,off)) (o:GOp):(nGOp o)[off]?=some (if b then .sl 1 (List.map zai (getL off o)) else I (getN off o)):=by
 have hW:W < 12:=by
  rcases Nat.lt_or_ge W 12 with q | q
  · exact q
  · rw [show slotsC W=[] from by unfold slotsC; split <;> first | omega | rfl] at h; simp at h
 rcases lt12 hW with rfl | rfl | rfl | rfl | rfl | rfl | rfl | rfl | rfl | rfl | rfl | rfl
 all_goals
  match i,h with
  | 0,h=>first | (cases h; done) | (injection h with h; injection h with h1 h2; subst h1; subst h2; rfl)
  | 1,h=>first | (cases h; done) | (injection h with h; injection h with h1 h2; subst h1; subst h2; rfl)
  | 2,h=>first | (cases h; done) | (injection h with h; injection h with h1 h2; subst h1; subst h2; rfl)
  | 3,h=>first | (cases h; done) | (injection h with h; injection h with h1 h2; subst h1; subst h2; rfl)
  | 4,h=>first | (cases h; done) | (injection h with h; injection h with h1 h2; subst h1; subst h2; rfl)
  | 5,h=>first | (cases h; done) | (injection h with h; injection h with h1 h2; subst h1; subst h2; rfl)
  | 6,h=>first | (cases h; done) | (injection h with h; injection h with h1 h2; subst h1; subst h2; rfl)
  | i+7,h=>cases h
theorem slots_ne {W:Nat} (hW:W < 12):slotsC W≠[]:=by rcases lt12 hW with rfl | rfl | rfl | rfl | rfl | rfl | rfl | rfl | rfl | rfl | rfl | rfl <;> exact List.cons_ne_nil _ _
theorem view_from {S:Nat→Prop} {w:World} {W g:Nat} {o:GOp} {v:Value} (hfp:CRel S w (.fp (nGOp o)) (.pointer (some ⟨g,0,none⟩))) (h:CRel S w (.sl 2 (List.map zae (slotsS W g))) v):CRel S w (.sl 2 (fsA W o)) v:=by
 refine h.view (by unfold fsA slotsS; simp) (fun cs hcs=>?_) (fun i j cs cs' a' hi hi' hj=>?_)
 · unfold fsA at hcs; obtain ⟨p,_,rfl⟩:=List.mem_map.1 hcs; split <;> rfl
 · unfold fsA at hi'; unfold slotsS at hi; rw [List.getElem?_map] at hi'; rw [List.map_map,List.getElem?_map] at hi
   cases hp:(slotsC W)[i]? with
   | none=>rw [hp] at hi'; cases hi'
   | some p =>
     obtain ⟨b,off⟩:=p; rw [hp] at hi hi'; injection hi with hi; injection hi' with hi'; subst hi; subst hi'; have hcell:=fsA_cell hp o
     cases b with
     | false =>
       match j,hj with
       | 0,hj=>injection hj with hj; subst hj; refine ⟨_,rfl,fun u hu=>?_⟩; cases hu; exact hfp.cell hcell
       | 1,hj=>injection hj with hj; subst hj; exact ⟨_,rfl,fun u hu=>hu⟩
       | j+2,hj=>simp at hj
     | true =>
       match j,hj with
       | 0,hj=>injection hj with hj; subst hj; exact ⟨_,rfl,fun u hu=>hu⟩
       | 1,hj=>injection hj with hj; subst hj; refine ⟨_,rfl,fun u hu=>?_⟩; cases hu; exact hfp.cell hcell
       | j+2,hj=>simp at hj
theorem view_to {S:Nat→Prop} {κ:Kap} {D D':Nat→Prop} {w:World} {kb:Option (Nat×Nat)} {W g c:Nat} {e:TypeId} (hW:W < 12) (hk:κ 5=some (g,c)) (hd:D' 5) (h:EntAt S κ D w kb ⟨2,e,List.map zae (slotsS W g),false⟩):EntAt S κ D' w kb ⟨2,e,tsA W,true⟩:=by
 refine h.boxed (by decide) (fun q=>slots_ne hW (by unfold slotsS at q; simpa using q)) (by unfold tsA slotsS; simp) (fun cs hcs=>?_) (fun i j cs cs' a' hi hi' hj=>?_)
 · unfold tsA at hcs; obtain ⟨p,_,rfl⟩:=List.mem_map.1 hcs; split <;> rfl
 · unfold tsA at hi'; unfold slotsS at hi; rw [List.getElem?_map] at hi'; rw [List.map_map,List.getElem?_map] at hi
   cases hp:(slotsC W)[i]? with
   | none=>rw [hp] at hi'; cases hi'
   | some p =>
     obtain ⟨b,off⟩:=p; rw [hp] at hi hi'; injection hi with hi; injection hi' with hi'; subst hi; subst hi'
     have hv:VRel S κ D' w (.loc 5 31 0 off) (.pointer (some ⟨g,off,none⟩)):=by
      have:=VRel.loc (S:=S) (w:=w) 5 31 0 off g c hd hk
      rwa [Nat.zero_mul,Nat.zero_add] at this
     cases b with
     | false =>
       match j,hj with
       | 0,hj=>injection hj with hj; subst hj; exact ⟨_,rfl,fun u hu=>by cases hu; exact hv⟩
       | 1,hj=>injection hj with hj; subst hj; exact ⟨_,rfl,fun u hu=>.c hu⟩
       | j+2,hj=>simp at hj
     | true =>
       match j,hj with
       | 0,hj=>injection hj with hj; subst hj; exact ⟨_,rfl,fun u hu=>.c hu⟩
       | 1,hj=>injection hj with hj; subst hj; exact ⟨_,rfl,fun u hu=>by cases hu; exact hv⟩
       | j+2,hj=>simp at hj
theorem zns {S:Nat→Prop} {w:World} (h:varsOk S w):CRel S w (.fp (za1.map AV.v)) (.pointer (some ⟨0,0,none⟩)):=by
 refine .fp _ _ (fun j=>za1.getD j undef) h.1.1 (fun j c hj=>?_) (fun j c hj=>?_)
 all_goals
  rw [List.getElem?_map] at hj
  cases hx:za1[j]? with
  | none=>rw [hx] at hj; cases hj
  | some x =>
    rw [hx] at hj; injection hj with hj; subst hj; have hg:za1.getD j undef=x:=by rw [List.getD_eq_getElem?_getD,hx]; rfl
    first
     | (rw [hg]; exact .v x)
     | (rw [hg,add_at,Nat.zero_add]
        refine ⟨?_,?_⟩
        · have:=World.var?_cell g0 h.1.2 j; rw [this]; simp [hx]
        · have hm:x∈za1:=List.mem_of_getElem? hx; unfold za1 at hm; obtain ⟨p,_,hp⟩:=List.mem_flatMap.1 hm; simp only [List.mem_cons,List.mem_nil_iff,or_false] at hp
          rcases hp with rfl | rfl <;> rfl)
theorem forms_at {W:Nat} (hW:W < 12):((za1.map AV.v).drop (W*2)).take 2=[.v (.string (tx (kw W))),I (((slotsC W).length+1:Nat):Int)]:=by rcases lt12 hW with rfl | rfl | rfl | rfl | rfl | rfl | rfl | rfl | rfl | rfl | rfl | rfl <;> rfl
theorem glob_op {N:Nat} {ops:Array Oper} {Q:Exit→Act→World→Prop} {i d x W:Nat} {st:St} {X:Sat2} {K':Act→World→Prop} (ho:opIs ops i d (.indexAddr zbk (.global 0) (.tmp x))) (hd:d < N) (h:NowP w0 S0 κ0 K N X st a w)
  (hx:get st.t x=I (W:Nat)) (hW:W < 12) (hK:∀ a',NowP w0 S0 κ0 K N X { st with t:=(d,.fp [.v (.string (tx (kw W))),I (((slotsC W).length+1:Nat):Int)]) :: st.t } a' w→K' a' w):wpOp zP ops Q i K' a w:=by
 obtain ⟨S,κ,h1,h2⟩:=h; obtain ⟨o,o1,o2,o3,o4⟩:=ho.get; have hvx:=h1.slots x; rw [hx] at hvx; have hvs:VRel S κ (fun b=>(Ab.look st.m b).isSome=true) w (.fp (za1.map AV.v)) (.pointer (some ⟨0,0,none⟩)):=.c (zns (Good.okw h1))
 have hi:aIndex zP zbk (.fp (za1.map AV.v)) (I (W:Nat))=some { val:=.fp [.v (.string (tx (kw W))),I (((slotsC W).length+1:Nat):Int)] }:=by
  have hu:zP.underlying zbk=some (.array 12 118):=by kernel_rfl
  have hz:szB zP 118=some 2:=by kernel_rfl
  unfold aIndex; simp only [hu,hz]; rw [iPQ]; simp only [Int.toNat_natCast]; rw [forms_at hW]
 obtain ⟨y,e1,e2,_⟩:=zh2 (w:=w) hi hvs hvx; refine zhT (w':=w) (y:=y) o1 o4 ?_ ?_
 · have:(Instr.indexAt zbk (a.eval (.global 0)) (a.eval (.tmp x))).run zP w=.ok y w:=e1; simp [execOp,o3,this]
 · rw [o2]; exact hK _ ⟨S,κ,h1.put hd _ _ e2,h2⟩
theorem fm6_0 (o c:GOp) (W:Nat) (hW:W < 12):tSeg zak zT 6 0 1 ⟨[(1,AV.fp (nGOp o)),(4,I W),(5,AV.loc 5 31 0 0),(6,AV.sl 2 (fsA W o)),(7,AV.row 22 2 0 (slotsC W).length)],[(5,⟨31,zaf,[nGOp c],true⟩),(22,⟨2,zad,tsA W,true⟩)]⟩ =
  some ⟨[(23,I W),(1,AV.fp (nGOp o)),(4,I W),(5,AV.loc 5 31 0 0),(6,AV.sl 2 (fsA W o)),(7,AV.row 22 2 0 (slotsC W).length)],[(5,⟨31,zaf,[nGOp c],true⟩),(22,⟨2,zad,tsA W,true⟩)]⟩:=by
 rcases lt12 hW with rfl | rfl | rfl | rfl | rfl | rfl | rfl | rfl | rfl | rfl | rfl | rfl <;> kernel_rfl
theorem NowP.ren {N:Nat} {st st':St} (h:NowP w0 S0 κ0 K N X0 st a w) (b s:Nat) (hb:b < 1000) (hs:s < 1000) (hbs:b≠s) (hL:Ab.look st.m s=none) (e:renS b s st=st'):NowP w0 S0 κ0 K N X0 st' a w:=by obtain ⟨S,κ,h1,_⟩:=h; subst e; exact ⟨S,_,h1.ren hb hs hbs hL,trivial⟩
theorem fm5' (w:Int) (g1 g5:Nat):tSeg zak zT 5 0 6 ⟨[(1,AV.v (.pointer (some ⟨g1,0,none⟩))),(4,I w),(5,AV.v (.pointer (some ⟨g5,0,none⟩)))],[]⟩=(callD zaC (cw zcC [I w,AV.v (.pointer (some ⟨g1,0,none⟩))] []) fun (r0:(List zaw)) =>
 callD zaC (cw zcC [I w,AV.v (.pointer (some ⟨g5,0,none⟩))] []) fun (r1:(List zaw)) =>
 some ⟨[(7,.row 22 2 0 (List.length (List.map zae r1))),(6,.row 20 2 0 (List.length (List.map zae r0))),(22,.row 22 2 0 (List.length (List.map zae r1))),(21,I w),(20,.row 20 2 0 (List.length (List.map zae r0))),(19,I w),(1,.v (.pointer (some ⟨g1,0,none⟩))),(4,I w),(5,.v (.pointer (some ⟨g5,0,none⟩)))],[(22,⟨2,zad,List.map zae r1,false⟩),(20,⟨2,zad,List.map zae r0,false⟩)]⟩):=by kernel_rfl
theorem fm_mid (o c:GOp) (W:Nat) (hW:W < 12)
  (h:NowP w0 S0 κ0 K zak.fn.ntmps X0 ⟨[(1,AV.loc 1 31 0 0),(4,I W),(5,AV.loc 5 31 0 0)],[(1,⟨31,zaf,[nGOp o],true⟩),(5,⟨31,zaf,[nGOp c],true⟩)]⟩ a w) {Q:Exit→Act→World→Prop} {rest:Code}
  (hQ:∀ a' w',NowP w0 S0 κ0 K zak.fn.ntmps X0 ⟨[(1,AV.fp (nGOp o)),(5,AV.loc 5 31 0 0),(6,AV.sl 2 (fsA W o)),(7,AV.row 22 2 0 (slotsC W).length),(8,AV.row 8 1 0 (List.length (List.map nStr [tx (kw W)])))],[(5,⟨31,zaf,[nGOp c],true⟩),(8,⟨1,zav,List.map nStr [tx (kw W)],false⟩),(22,⟨2,zad,tsA W,true⟩)]⟩ a' w'→rest.wp zak.P Q a' w'):(Code.seq (.region 5 (fmO 5) false) (.seq (.region 6 (fmO 6) false) rest)).wp zak.P Q a w:=by
 have hv1:∃ g1,a.tmps.getD 1 undef=.pointer (some ⟨g1,0,none⟩):=by obtain ⟨S,κ,hg,_⟩:=h; obtain ⟨g,c',_,_,e⟩:=(hg.slots 1).loc_inv; exact ⟨g,by rw [e]⟩
 obtain ⟨g1,hg1⟩:=hv1; have h1:=h.freeze Stable.none fm_n [1] rfl (st':=⟨[(1,AV.fp (nGOp o)),(4,I W),(5,AV.loc 5 31 0 0)],[(5,⟨31,zaf,[nGOp c],true⟩)]⟩) (by kernel_rfl); obtain ⟨g5,c5,κd,hκd,hg5,h2⟩:=h1.leave (B:=5) (k:=5) rfl (by decide) (by kernel_rfl) rfl; have hst5:=Away.stable (w0:=w0) (κ0:=κ0) (K:=K) (B:=5) (e:=⟨31,zaf,[nGOp c],true⟩) hκd; have hfp:=Stable.lasts (.fp (nGOp o)) (.pointer (some ⟨g1,0,none⟩))
 have h3:NowP w0 S0 κ0 K zak.fn.ntmps (fun S κ L w=>Away w0 κ0 K 5 ⟨31,zaf,[nGOp c],true⟩ g5 κd S κ L w∧CRel S w (.fp (nGOp o)) (.pointer (some ⟨g1,0,none⟩)))
   ⟨[(1,AV.v (.pointer (some ⟨g1,0,none⟩))),(4,I W),(5,AV.v (.pointer (some ⟨g5,0,none⟩)))],[]⟩ a w:=by
  obtain ⟨S,κ,hg,hx⟩:=h2; have hs1:=hg.slots 1
  have hc:CRel S w (.fp (nGOp o)) (.pointer (some ⟨g1,0,none⟩)):=by rw [← hg1]; exact VRel.fp_inv (show VRel S κ _ w (.fp (nGOp o)) _ from hs1)
  have q1:=GoodS.set hg 5 (.v (.pointer (some ⟨g5,0,none⟩))) (by rw [hg5]; exact .c (.v _)); have q2:=GoodS.set q1 1 (.v (.pointer (some ⟨g1,0,none⟩))) (by rw [hg1]; exact .c (.v _)); exact NowP.trim (hst5.both hfp) ⟨S,κ,q2,hx,hc⟩ [1,4,5] [] (by kernel_rfl)
 have z5:(fmO 5).size=6:=by kernel_rfl
 have t5:=fm5' (W:Nat) g1 g5; rw [zkt g1 hW,zbe,zkt g5 hW,zbe] at t5; refine wp_seq (wp_region ?_); rw [z5,show List.range 6=List.range' 0 6++[] from rfl]; refine segP (hst5.both hfp) fm_hb fm_n fm_r5 t5 (by rw [z5]; decide) h3 (fun a2 w2 h4=>?_); show (Code.seq (.region 6 (fmO 6) false) rest).wp zak.P Q a2 w2
 have h5:=(h4.trim (hst5.both hfp) [1,4,5,6,7] [] (by kernel_rfl) (st':=⟨[(1,AV.v (.pointer (some ⟨g1,0,none⟩))),(4,I W),(5,AV.v (.pointer (some ⟨g5,0,none⟩))),(6,.row 20 2 0 (List.length (List.map zae (slotsS W g1)))),(7,.row 22 2 0 (List.length (List.map zae (slotsS W g5))))],[(20,⟨2,zad,List.map zae (slotsS W g1),false⟩),(22,⟨2,zad,List.map zae (slotsS W g5),false⟩)]⟩)).freeze (hst5.both hfp) fm_n [20] rfl (st':=⟨[(1,AV.v (.pointer (some ⟨g1,0,none⟩))),(4,I W),(5,AV.v (.pointer (some ⟨g5,0,none⟩))),(6,.sl 2 (List.map zae (slotsS W g1))),(7,.row 22 2 0 (List.length (List.map zae (slotsS W g5))))],[(22,⟨2,zad,List.map zae (slotsS W g5),false⟩)]⟩) (by
    generalize List.map zae (slotsS W g1)=xs; generalize List.map zae (slotsS W g5)=ys
    simp [za3,zf6,zes,zbf,snap,Ab.look])
 obtain ⟨S,κ,hg,hk5,κ1,hc⟩:=h5.back hκd (by decide) rfl; have e1:=(hg.slots 1).v_inv; have e5:=(hg.slots 5).v_inv; have q1:=GoodS.set hg 1 (.fp (nGOp o)) (by rw [show a2.tmps.getD 1 undef=_ from e1]; exact .c hc)
 have q2:=GoodS.set q1 5 (.loc 5 31 0 0) (by
  rw [show a2.tmps.getD 5 undef=_ from e5]; have:=VRel.loc (S:=S) (κ:=κ) (D:=fun b=>(Ab.look ((5,(⟨31,zaf,[nGOp c],true⟩:Ent)) :: [(22,(⟨2,zad,List.map zae (slotsS W g5),false⟩:Ent))]) b).isSome=true) (w:=w2) 5 31 0 0 g5 c5 (by rfl) hk5
  exact this)
 have q3:=GoodS.set q2 6 (.sl 2 (fsA W o)) (.c (view_from hc (VRel.sl_inv (show VRel S κ _ w2 (.sl 2 (List.map zae (slotsS W g1))) _ from hg.slots 6)))); have q4:=GoodS.reent q3 (B:=22) (ent':=⟨2,zad,tsA W,true⟩) rfl (view_to hW hk5 (by rfl) (hg.ents 22 _ rfl))
 have h6:=NowP.trim Stable.none (X:=X0) ⟨S,κ,q4,trivial⟩ [1,4,5,6,7] [] (st':=⟨[(1,AV.fp (nGOp o)),(4,I W),(5,AV.loc 5 31 0 0),(6,AV.sl 2 (fsA W o)),(7,AV.row 22 2 0 (slotsC W).length)],[(5,⟨31,zaf,[nGOp c],true⟩),(22,⟨2,zad,tsA W,true⟩)]⟩) (by
  rw [show (slotsC W).length=(List.map zae (slotsS W g5)).length by unfold slotsS; simp]
  rfl)
 have z6:(fmO 6).size=6:=by kernel_rfl
 refine wp_seq (wp_region ?_); rw [z6,show List.range 6=List.range' 0 1++(1 :: (List.range' 2 4++[])) from rfl]; refine segP Stable.none fm_hb fm_n fm_r6 (fm6_0 o c W hW) (by rw [z6]; decide) h6 (fun a3 w3 h7=>?_); rw [wpOps_cons]; refine glob_op (d:=24) (x:=23) (by unfold opIs; kernel_rfl) (by decide) h7 rfl hW (fun a4 h8=>?_); have h9:=h8.trim Stable.none [1,5,24,6,7] [] (st':=⟨[(1,AV.fp (nGOp o)),(5,AV.loc 5 31 0 0),(24,AV.fp [AV.v (.string (tx (kw W))),I (((slotsC W).length+1:Nat):Int)]),(6,AV.sl 2 (fsA W o)),(7,AV.row 22 2 0 (slotsC W).length)],[(5,⟨31,zaf,[nGOp c],true⟩),(22,⟨2,zad,tsA W,true⟩)]⟩) (by kernel_rfl); refine segP Stable.none fm_hb fm_n fm_r6 (fm6 o c (fsA W o) W hW (tx (kw W)) _ W) (by rw [z6]; decide) h9 (fun a5 w5 hA=>?_); have hB:=hA.trim Stable.none [1,5,6,7,8] [] rfl; have hC:=NowP.ren hB 27 8 (by decide) (by decide) (by decide) (by kernel_rfl) rfl
 exact hQ _ _ (hC.trim Stable.none [1,5,6,7,8] [] (by
  clear hQ h hg1 h1 hg5 h2 h3 t5 h4 h5 hg hk5 hc e1 e5 q1 q2 q3 q4 h6 h7 h8 h9 hA hB hC
  rcases lt12 hW with rfl | rfl | rfl | rfl | rfl | rfl | rfl | rfl | rfl | rfl | rfl | rfl <;> kernel_rfl))
theorem formOfS_le (o:GOp):zbo o≤12:=by
 unfold zbo
 cases h:(List.range 12).find? (isForm o) with
 | none=>simp
 | some w=>have:=List.mem_range.1 (List.mem_of_find?_eq_some h); simp; omega
theorem fm3':tReg zak zT 3 ⟨[],[]⟩=some stBad:=by kernel_rfl
theorem fm19:tReg zak zT 19 ⟨[],[]⟩=some stBad:=by kernel_rfl
theorem word_len {o:GOp} (ho:OpW o) (p:Bool×Nat) (hk:okW o p):(wordC o p).length≤21000:=by
 unfold wordC; unfold okW at hk; split
 · rename_i h; rw [if_pos h] at hk; unfold wordL; split
   · simp
   · have:=zgU (k:=20) 44 ((getL p.2 o).map Lib.itoa) (fun w hw=>by
      obtain ⟨n,hn,rfl⟩:=List.mem_map.1 hw
      exact zeZ ((ho.list p.2).2 n hn))
     rw [List.length_map] at this; omega
 · have:=zeZ (ho.num p.2); omega
theorem kw_len (W:Nat):(kw W).length≤9:=by
 rcases Nat.lt_or_ge W 12 with h | h
 · rcases lt12 h with rfl | rfl | rfl | rfl | rfl | rfl | rfl | rfl | rfl | rfl | rfl | rfl <;> decide
 · unfold kw; rw [List.getElem?_eq_none (by simpa [formsT] using h)]; simp
abbrev stOut (r:List UInt8×Int):St:=⟨[(2,.v (.string (tx r.1))),(3,I r.2)],[]⟩
theorem fm_body {o:GOp} (ho:OpW o) (h:NowP w0 S0 κ0 K zak.fn.ntmps X0 ⟨[(0,AV.agg (nGOp o))],[]⟩ a w):fmC.wp zak.P (PostC w0 S0 κ0 K zak.fn.ntmps .ret (stOut (fmtR o))) a w:=by
 have bad:fmtS o=none→∀ a' w',NowP w0 S0 κ0 K zak.fn.ntmps X0 stBad a' w'→PostC w0 S0 κ0 K zak.fn.ntmps .ret (stOut (fmtR o)) .ret a' w':=fun e a' w' hn=>by refine ⟨rfl,?_⟩; unfold fmtR; rw [e]; obtain ⟨S,κ,hg,_⟩:=hn; exact ⟨S,κ,hg⟩
 rw [fm_shape]; refine wp_seq (fmStep fm_r0 (fm0 o) h (fun a1 w1 h1=>?_)); have t1:=fm1 o; rw [c_formOf,zjq] at t1; refine wp_seq (fmStep fm_r1 t1 h1 (fun a2 w2 h2=>?_)); refine wp_seq (wp_seq (fmStep fm_r2 (fm2 o (zbo o:Nat)) h2 (fun a3 w3 h3=>?_))); refine wp_cond (h3.bool (b:=(((zbo o:Nat):Int) == 12)) rfl) ?_; have hle:=formOfS_le o; by_cases hF:zbo o=12
 · rw [hF,show (((12:Nat):Int) == 12)=true from rfl,if_pos rfl]; have e:fmtS o=none:=by unfold fmtS; rw [if_neg (fun q=>by omega)]
   have h4:=h3.trim Stable.none [] [1] (st':=⟨[],[]⟩) (by kernel_rfl); exact wp_seq (fmStep fm_r3 fm3' h4 (fun a5 w5 h5=>wp_ret (bad e a5 w5 h5)))
 rw [show (((zbo o:Nat):Int) == 12)=false from by rw [beq_eq_false_iff_ne]; omega,iNs]; refine wp_skip ?_; have hW:zbo o < 12:=by omega
 generalize hWe:zbo o=W at hW h3; have h4:=h3.trim Stable.none [1,4] [] (st':=⟨[(1,AV.loc 1 31 0 0),(4,I W)],[(1,⟨31,zaf,[nGOp o],true⟩)]⟩) (by kernel_rfl); have t4:=fm4 o W; rw [c_blank hW,zez] at t4; refine wp_seq (fmStep fm_r4 t4 h4 (fun a5 w5 h5=>?_)); refine fm_mid o (blankS W) W hW h5 (fun a6 w6 h6=>?_); refine wp_seq (fm_loop o ho W hW (by simpa only [cpA,wsA,List.take_zero,List.foldl_nil,List.map_nil] using h6) (fun hok a7 w7 h7=>?_) (fun hbad a7 w7 h7=>bad (by unfold fmtS; rw [hWe,if_neg (fun q=>hbad q.2.1)]) a7 w7 h7)); have t18:=fm18 o (copyS W o) [] W hW (wsA W o (slotsC W).length); rw [c_same o _ (by have:=(ho.list 28).1; exact Nat.lt_of_le_of_lt this (by decide)) (by have:=(ho.list 9).1; exact Nat.lt_of_le_of_lt this (by decide)) (by have:=(ho.list 10).1; exact Nat.lt_of_le_of_lt this (by decide)) (by have:=(ho.list 19).1; exact Nat.lt_of_le_of_lt this (by decide)),zaE] at t18; refine wp_seq (wp_seq (fmStep fm_r18 t18 h7 (fun a8 w8 h8=>?_))); refine wp_cond (h8.bool (b:=!decide (o=copyS W o)) rfl) ?_; by_cases hs:o=copyS W o
 · rw [decide_eq_true hs,iNs]; refine wp_skip ?_; have h9:=h8.trim Stable.none [8] [] (st':=⟨[(8,AV.row 8 1 0 (List.length (List.map nStr (wsA W o (slotsC W).length))))],[(8,⟨1,zav,List.map nStr (wsA W o (slotsC W).length),false⟩)]⟩) (by kernel_rfl)
   have hws:wsA W o (slotsC W).length=(kw W :: (slotsC W).map (wordC o)).map tx:=by unfold wsA; rw [List.take_length,List.map_cons,List.map_map]; rfl
   have hlen:=zhh W
   have hj:=zgU (k:=21000) 32 (kw W :: (slotsC W).map (wordC o)) (fun w hw=>by
    rcases List.mem_cons.1 hw with rfl | hw
    · have:=kw_len W; omega
    · obtain ⟨p,hp,rfl⟩:=List.mem_map.1 hw
      exact word_len ho p (hok p hp))
   have t20:=fm20 (wsA W o (slotsC W).length); rw [cPQ,List.take_length,hws,show (({ data:={ toList:=[32] } }:ByteArray))=tx [32] from rfl,c_Join (by simp; omega) (by simp only [List.length_cons,List.length_map] at hj; omega),za4] at t20; rw [hws] at h9; refine wp_seq (fmStep fm_r20 t20 h9 (fun aA wA hA=>wp_ret ⟨rfl,?_⟩))
   have e:fmtS o=some (lineS W o):=by unfold fmtS; rw [hWe,if_pos ⟨hW,hok,hs.symm⟩]
   unfold fmtR; rw [e]; obtain ⟨S,κ,hg,_⟩:=hA; exact ⟨S,κ,hg⟩
 · rw [decide_eq_false hs,if_pos (by simp)]; have h9:=h8.trim Stable.none [] [8] (st':=⟨[],[]⟩) (by kernel_rfl); exact wp_seq (fmStep fm_r19 fm19 h9 (fun aA wA hA=>wp_ret (bad (by unfold fmtS; rw [hWe,if_neg (fun q=>hs q.2.2.symm)]) aA wA hA)))
theorem fmt_ok:CallOK zP (single zbz zOrc):=by
 refine ora (o:=oFmt) (fun args=>by unfold zOrc; simp (decide:=true) only [if_false,if_true]) fm_enters (fun args r ms' hr=>?_); unfold oFmt at hr; split at hr
 case h_2=>cases hr
 rename_i cs; split at hr
 case h_2=>cases hr
 rename_i o hd; split at hr
 case isFalse=>cases hr
 rename_i ho; injection hr with hr; injection hr with h1 h2; subst h1 h2; have he:=dGOp.ok cs o hd; subst he; refine ⟨rfl,fun w S κ vals hvl hS hk hv=>?_⟩; have hf:zak.P.funcs[zbz]?=some zak.fn:=by kernel_rfl
 refine ziw (args:=[AV.agg (nGOp o)]) (ms:=[]) (frz:=false) (ex:=.ret) (st:=stOut (fmtR o)) hf fm_hb (show 1≤zak.fn.ntmps by decide) hvl hS hk hv (fun b ent hb=>by simp [Ab.look] at hb) (fun b b' g c c' hd=>by simp [Dm,Ab.look] at hd) (fun id=>by simp) (fun a hg=>?_) ?_ ?_ ?_
 · obtain ⟨S,κ,hg⟩:=hg; exact fm_body ho ⟨S,κ,hg,trivial⟩
 · kernel_rfl
 · kernel_rfl
 · kernel_rfl
theorem zl6 {o:GOp} (ho:OpW o):cw zbz [.agg (nGOp o)] []=some (zd9 (tx (fmtR o).1,(fmtR o).2)):=by
 refine zf9 fmt_ok ?_; have hd:dGOp.dec (nGOp o)=some o:=dGOp.de o
 have e:oFmt [.agg (nGOp o)]=(match dGOp.dec (nGOp o) with
  | some o=>@ite _ (OpW o) (Classical.propDecidable _) (some (.tup [.v (.string (tx (fmtR o).1)),I (fmtR o).2],[])) none
  | none=>none):=rfl
 show oFmt [.agg (nGOp o)]=_; rw [e,hd]; simp only; rw [if_pos ho]; rfl
end
end Go.Proofs.YtdclabgakicjeaaDoor
namespace Go.Proofs.YtdclabgakicjeaaDoor
open Go.Ab Go.Str
set_option maxRecDepth 100000
def pzC:Code:=(zam.fn.body).getD .skip
def pzO (j:Nat):Array Oper:=opsAt j pzC
def pzD (j:Nat):Bool:=drawnAt j pzC
theorem pz_hb:zam.fn.body=some pzC:=by kernel_rfl
theorem pz_shape:pzC=(.seq (.region 0 (pzO 0) (pzD 0)) (.seq (.region 1 (pzO 1) (pzD 1)) (.seq (.seq (.region 2 (pzO 2) false) (.block 0 (.loop (.seq (.region 3 (pzO 3) (pzD 3)) (.seq (.cond (.tmp 14) .skip (.exit 0)) (.seq (.block 1 (.seq (.region 4 (pzO 4) (pzD 4)) (.seq (.seq (.region 5 (pzO 5) (pzD 5)) (.cond (.tmp 22) (.exit 1) .skip)) (.seq (.seq (.region 6 (pzO 6) (pzD 6)) (.cond (.tmp 27) (.seq (.region 7 (pzO 7) (pzD 7)) .ret) .skip)) (.seq (.region 8 (pzO 8) (pzD 8)) (.seq (.seq (.region 9 (pzO 9) false) (.block 2 (.loop (.seq (.region 10 (pzO 10) (pzD 10)) (.seq (.cond (.tmp 35) .skip (.exit 2)) (.seq (.block 3 (.seq (.region 11 (pzO 11) (pzD 11)) (.seq (.region 12 (pzO 12) (pzD 12)) (.cond (.tmp 46) (.seq (.region 13 (pzO 13) (pzD 13)) .ret) .skip)))) (.region 14 (pzO 14) (pzD 14)))))))) (.seq (.region 15 (pzO 15) (pzD 15)) .ret))))))) (.region 16 (pzO 16) (pzD 16)))))))) (.seq (.region 17 (pzO 17) (pzD 17)) .ret)))):=by kernel_rfl
theorem pz_r0:regOf 0 pzC=some (.region 0 (pzO 0) (pzD 0)):=by kernel_rfl
theorem pz_r1:regOf 1 pzC=some (.region 1 (pzO 1) (pzD 1)):=by kernel_rfl
theorem pz_r2:regOf 2 pzC=some (.region 2 (pzO 2) false):=by kernel_rfl
theorem pz_r3:regOf 3 pzC=some (.region 3 (pzO 3) (pzD 3)):=by kernel_rfl
theorem pz_r4:regOf 4 pzC=some (.region 4 (pzO 4) (pzD 4)):=by kernel_rfl
theorem pz_r5:regOf 5 pzC=some (.region 5 (pzO 5) (pzD 5)):=by kernel_rfl
theorem pz_r6:regOf 6 pzC=some (.region 6 (pzO 6) (pzD 6)):=by kernel_rfl
theorem pz_r7:regOf 7 pzC=some (.region 7 (pzO 7) (pzD 7)):=by kernel_rfl
theorem pz_r8:regOf 8 pzC=some (.region 8 (pzO 8) (pzD 8)):=by kernel_rfl
theorem pz_r9:regOf 9 pzC=some (.region 9 (pzO 9) false):=by kernel_rfl
theorem pz_r10:regOf 10 pzC=some (.region 10 (pzO 10) (pzD 10)):=by kernel_rfl
theorem pz_r11:regOf 11 pzC=some (.region 11 (pzO 11) (pzD 11)):=by kernel_rfl
theorem pz_r12:regOf 12 pzC=some (.region 12 (pzO 12) (pzD 12)):=by kernel_rfl
theorem pz_r13:regOf 13 pzC=some (.region 13 (pzO 13) (pzD 13)):=by kernel_rfl
theorem pz_r14:regOf 14 pzC=some (.region 14 (pzO 14) (pzD 14)):=by kernel_rfl
theorem pz_r15:regOf 15 pzC=some (.region 15 (pzO 15) (pzD 15)):=by kernel_rfl
theorem pz_r16:regOf 16 pzC=some (.region 16 (pzO 16) (pzD 16)):=by kernel_rfl
theorem pz_r17:regOf 17 pzC=some (.region 17 (pzO 17) (pzD 17)):=by kernel_rfl
theorem pz_n:zam.fn.ntmps≤1000:=by decide
theorem pz_enters:enters zam.P zbn=true:=by kernel_rfl
theorem view_put {S:Nat→Prop} {κ:Kap} {D D':Nat→Prop} {w:World} {kb:Option (Nat×Nat)} {W g c:Nat} {e:TypeId} (hW:W < 12) (hk:κ 7=some (g,c)) (hd:D' 7) (h:EntAt S κ D w kb ⟨2,e,List.map zae (slotsS W g),false⟩):EntAt S κ D' w kb ⟨2,e,tsP W,true⟩:=by
 refine h.boxed (by decide) (fun q=>slots_ne hW (by unfold slotsS at q; simpa using q)) (by unfold tsP slotsS; simp) (fun cs hcs=>?_) (fun i j cs cs' a' hi hi' hj=>?_)
 · unfold tsP at hcs; obtain ⟨p,_,rfl⟩:=List.mem_map.1 hcs; split <;> rfl
 · unfold tsP at hi'; unfold slotsS at hi; rw [List.getElem?_map] at hi'; rw [List.map_map,List.getElem?_map] at hi
   cases hp:(slotsC W)[i]? with
   | none=>rw [hp] at hi'; cases hi'
   | some p =>
     obtain ⟨b,off⟩:=p; rw [hp] at hi hi'; injection hi with hi; injection hi' with hi'; subst hi; subst hi'
     have hv:VRel S κ D' w (.loc 7 31 0 off) (.pointer (some ⟨g,off,none⟩)):=by
      have:=VRel.loc (S:=S) (w:=w) 7 31 0 off g c hd hk
      rwa [Nat.zero_mul,Nat.zero_add] at this
     cases b with
     | false =>
       match j,hj with
       | 0,hj=>injection hj with hj; subst hj; exact ⟨_,rfl,fun u hu=>by cases hu; exact hv⟩
       | 1,hj=>injection hj with hj; subst hj; exact ⟨_,rfl,fun u hu=>.c hu⟩
       | j+2,hj=>simp at hj
     | true =>
       match j,hj with
       | 0,hj=>injection hj with hj; subst hj; exact ⟨_,rfl,fun u hu=>.c hu⟩
       | 1,hj=>injection hj with hj; subst hj; exact ⟨_,rfl,fun u hu=>by cases hu; exact hv⟩
       | j+2,hj=>simp at hj
section
variable {w0:World} {S0:Nat→Prop} {κ0:Kap} {K:Nat→Prop} {a:Act} {w:World}
theorem pzStep {j:Nat} {st st':St} (hr:regOf j pzC=some (.region j (pzO j) (pzD j))) (ht:tReg zam zT j st=some st')
  (h:NowP w0 S0 κ0 K zam.fn.ntmps X0 st a w) {Q:Exit→Act→World→Prop} (hQ:∀ a' w',NowP w0 S0 κ0 K zam.fn.ntmps X0 st' a' w'→Q .normal a' w'):(Code.region j (pzO j) (pzD j)).wp zam.P Q a w:=stepP Stable.none pz_hb pz_n hr ht h hQ
abbrev stR (r:Option GOp):St:=⟨[(2,AV.loc 2 31 0 0),(3,I (match r with | some _=>0 | none=>7))],[(2,⟨31,zaf,[match r with | some o=>nGOp o | none=>nilOp],true⟩)]⟩
abbrev stL (ws:List ByteArray) (c:GOp) (W:Nat) (i:Int):St:=⟨[(2,AV.loc 2 31 0 0),(4,AV.sl 1 (List.map nStr ws)),(7,AV.loc 7 31 0 0),(32,AV.row 32 2 0 (slotsC W).length),(33,I (slotsC W).length),(34,I i)],[(2,⟨31,zaf,[nilOp],true⟩),(7,⟨31,zaf,[nGOp c],true⟩),(32,⟨2,zad,tsP W,true⟩)]⟩
abbrev pzBody:Code:=.seq (.region 11 (pzO 11) (pzD 11)) (.seq (.region 12 (pzO 12) (pzD 12)) (.cond (.tmp 46) (.seq (.region 13 (pzO 13) (pzD 13)) .ret) .skip))
theorem pz_round (ws:List ByteArray) (W:Nat) (hW:W < 12) (i:Nat) (p:Bool×Nat) (hp:(slotsC W)[i]?=some p) (l:List UInt8) (hl:l.length < 4294967281) (hw:ws[i+1]?=some (tx l)) (c:GOp)
  (h:NowP w0 S0 κ0 K zam.fn.ntmps X0 (stL ws c W i) a w) {Q:Exit→Act→World→Prop}
  (hok:∀ c',read1 c p l=some c'→∀ a' w',NowP w0 S0 κ0 K zam.fn.ntmps X0 (stL ws c' W i) a' w'→Q .normal a' w')
  (hbad:read1 c p l=none→∀ a' w',NowP w0 S0 κ0 K zam.fn.ntmps X0 (stR none) a' w'→Q .ret a' w'):pzBody.wp zam.P Q a w:=by
 have hil:i < (slotsC W).length:=(List.getElem?_eq_some_iff.1 hp).1; have hs7:=zhh W; have t11:=pz11 W i p hp c ws (slotsC W).length; rw [cPQ,cPQ] at t11; refine wp_seq (pzStep pz_r11 t11 h (fun a1 w1 h1=>?_)); have hi1:(w64 ((i:Int)+1)).toNat=i+1:=by rw [w6Q]; omega
 have hi0:(0:Int)≤w64 ((i:Int)+1):=by rw [w6Q]; omega
 obtain ⟨pl,off⟩:=p
 cases pl with
 | false =>
   have t12:=pz12n c ws W hW (slotsC W).length i off; rw [zao hi0,zix,hi1,hw,Option.bind_some,read_n (slots_n hp),zfi] at t12; refine wp_seq (pzStep pz_r12 t12 h1 (fun a2 w2 h2=>?_)); refine wp_cond (h2.bool (b:=!(numR l).2) rfl) ?_; unfold numR at h2 ⊢
   cases hn:numS l with
   | some n=>rw [hn] at h2; simp only; rw [Bool.not_true,iNs]; exact wp_skip (hok (putN n off c) (by simp [read1,hn]) _ _ (h2.trim Stable.none [2,4,7,32,33,34] [] (by kernel_rfl)))
   | none=>simp only; rw [Bool.not_false,if_pos rfl]; rw [hn] at h2; have h3:=h2.trim Stable.none [2] [7,32] (st':=⟨[(2,AV.loc 2 31 0 0)],[(2,⟨31,zaf,[nilOp],true⟩)]⟩) (by kernel_rfl); exact wp_seq (pzStep pz_r13 pz13 h3 (fun a4 w4 h4=>wp_ret (hbad (by simp [read1,hn]) a4 w4 h4)))
 | true =>
   have t12:=pz12l c ws W hW (slotsC W).length i off; rw [zao hi0,zix,hi1,hw,Option.bind_some,read_l (slots_l hp) c l hl,zfi] at t12; refine wp_seq (pzStep pz_r12 t12 h1 (fun a2 w2 h2=>?_)); refine wp_cond (h2.bool (b:=!(listR l).2) rfl) ?_; unfold listR at h2 ⊢
   cases hn:readL l with
   | some n=>rw [hn] at h2; simp only; rw [Bool.not_true,iNs]; exact wp_skip (hok (putL n off c) (by simp [read1,hn]) _ _ (h2.trim Stable.none [2,4,7,32,33,34] [] (by kernel_rfl)))
   | none=>simp only; rw [Bool.not_false,if_pos rfl]; rw [hn] at h2; have h3:=h2.trim Stable.none [2] [7,32] (st':=⟨[(2,AV.loc 2 31 0 0)],[(2,⟨31,zaf,[nilOp],true⟩)]⟩) (by kernel_rfl); exact wp_seq (pzStep pz_r13 pz13 h3 (fun a4 w4 h4=>wp_ret (hbad (by simp [read1,hn]) a4 w4 h4)))
abbrev pzLoop:Code:=.loop (.seq (.region 10 (pzO 10) (pzD 10)) (.seq (.cond (.tmp 35) .skip (.exit 2)) (.seq (.block 3 pzBody) (.region 14 (pzO 14) (pzD 14)))))
theorem zoA {p:Bool×Nat} {ps:List (Bool×Nat)} {w:List UInt8} {ws:List (List UInt8)} {c:GOp}:zbE (p :: ps) (w :: ws) c=(match read1 c p w with | some c'=>zbE ps ws c' | none=>none):=rfl
theorem pz_loop (hd:List UInt8) (tl:List (List UInt8)) (W:Nat) (hW:W < 12) (hlen:tl.length=(slotsC W).length) (hsm:∀ l∈tl,l.length < 4294967281)
  (h:NowP w0 S0 κ0 K zam.fn.ntmps X0 (stL ((hd :: tl).map tx) (blankS W) W 0) a w) {Q:Exit→Act→World→Prop}
  (hok:∀ o,zbE (slotsC W) tl (blankS W)=some o→∀ a' w',NowP w0 S0 κ0 K zam.fn.ntmps X0 ⟨[(2,AV.loc 2 31 0 0),(7,AV.loc 7 31 0 0)],[(2,⟨31,zaf,[nilOp],true⟩),(7,⟨31,zaf,[nGOp o],true⟩)]⟩ a' w'→Q .normal a' w')
  (hbad:zbE (slotsC W) tl (blankS W)=none→∀ a' w',NowP w0 S0 κ0 K zam.fn.ntmps X0 (stR none) a' w'→Q .ret a' w'):(Code.block 2 pzLoop).wp zam.P Q a w:=by
 have hs7:=zhh W; refine wp_block (wp_loop (fun a w=>∃ k:Nat,k≤(slotsC W).length∧∃ c,zbE ((slotsC W).drop k) (tl.drop k) c=zbE (slotsC W) tl (blankS W)∧NowP w0 S0 κ0 K zam.fn.ntmps X0 (stL ((hd :: tl).map tx) c W k) a w) (fun a _=>(slotsC W).length - cnt a 34) ⟨0,Nat.zero_le _,blankS W,rfl,h⟩ ?_)
 rintro a w ⟨k,hk,c,hA,hn⟩
 have hc0:cnt a 34=k:=by rw [hn.cnt (n:=(k:Int)) rfl]; simp
 refine wp_seq (pzStep pz_r10 (pz10 c ((hd :: tl).map tx) W hW (slotsC W).length k) hn (fun a2 w2 h2=>?_)); refine wp_seq (wp_cond (h2.bool (b:=decide ((k:Int) < (slotsC W).length)) rfl) ?_); by_cases hlt:k < (slotsC W).length
 · rw [decide_eq_true (by omega),if_pos rfl]; refine wp_skip ?_; have h3:=h2.trim Stable.none [2,4,7,32,33,34] [] (st':=stL ((hd :: tl).map tx) c W k) (by kernel_rfl); have hp:(slotsC W)[k]?=some (slotsC W)[k]:=List.getElem?_eq_getElem hlt; have hkt:k < tl.length:=by omega
   have hw:((hd :: tl).map tx)[k+1]?=some (tx tl[k]):=by rw [List.map_cons,List.getElem?_cons_succ,List.getElem?_map,List.getElem?_eq_getElem hkt]; rfl
   have hstep:zbE ((slotsC W).drop k) (tl.drop k) c=(match read1 c (slotsC W)[k] tl[k] with | some c'=>zbE ((slotsC W).drop (k+1)) (tl.drop (k+1)) c' | none=>none):=by rw [List.drop_eq_getElem_cons hlt,List.drop_eq_getElem_cons hkt]; exact zoA
   refine wp_seq (wp_block (pz_round _ W hW k _ hp tl[k] (hsm _ (List.getElem_mem hkt)) hw c h3 (fun c' hc' a4 w4 h4=>?_) (fun hb a4 w4 h4=>hbad (by rw [← hA,hstep,hb]) a4 w4 h4))); refine pzStep pz_r14 (pz14 c' _ W hW (slotsC W).length k) h4 (fun a5 w5 h5=>?_); rw [w6Q] at h5; refine ⟨⟨k+1,hlt,c',by rw [← hA,hstep,hc'],by exact_mod_cast h5⟩,?_⟩; have:cnt a5 34=k+1:=by rw [h5.cnt (n:=(k:Int)+1) rfl]; omega
   show (slotsC W).length - cnt a5 34 < (slotsC W).length - cnt a 34; omega
 · rw [decide_eq_false (by omega),iNs]; have hkl:k=(slotsC W).length:=by omega
   have hA':zbE (slotsC W) tl (blankS W)=some c:=by rw [← hA,hkl,List.drop_length]; rfl
   exact wp_exit (hok c hA' _ _ (h2.trim Stable.none [2,7] [32] (by kernel_rfl)))
theorem pz9 (ws:List ByteArray) (w:Int) (g7:Nat):tSeg zam zT 9 0 4 ⟨[(2,AV.loc 2 31 0 0),(4,AV.sl 1 (List.map nStr ws)),(5,I w),(7,AV.v (.pointer (some ⟨g7,0,none⟩)))],[(2,⟨31,zaf,[nilOp],true⟩)]⟩=(callD zaC (cw zcC [I w,AV.v (.pointer (some ⟨g7,0,none⟩))] []) fun (r0:(List zaw))=>some ⟨[(34,I 0),(33,I (List.length (List.map zae r0))),(32,.row 32 2 0 (List.length (List.map zae r0))),(31,I w),(2,AV.loc 2 31 0 0),(4,AV.sl 1 (List.map nStr ws)),(5,I w),(7,AV.v (.pointer (some ⟨g7,0,none⟩)))],[(32,⟨2,zad,List.map zae r0,false⟩),(2,⟨31,zaf,[nilOp],true⟩)]⟩):=by kernel_rfl
theorem pz_mid (ws:List ByteArray) (c:GOp) (W:Nat) (hW:W < 12)
  (h:NowP w0 S0 κ0 K zam.fn.ntmps X0 ⟨[(2,AV.loc 2 31 0 0),(4,AV.sl 1 (List.map nStr ws)),(5,I W),(7,AV.loc 7 31 0 0)],[(2,⟨31,zaf,[nilOp],true⟩),(7,⟨31,zaf,[nGOp c],true⟩)]⟩ a w) {Q:Exit→Act→World→Prop} {rest:Code}
  (hQ:∀ a' w',NowP w0 S0 κ0 K zam.fn.ntmps X0 (stL ws c W 0) a' w'→rest.wp zam.P Q a' w'):(Code.seq (.region 9 (pzO 9) false) rest).wp zam.P Q a w:=by
 obtain ⟨g7,c7,κd,hκd,hg7,h2⟩:=h.leave (B:=7) (k:=7) rfl (by decide) (by kernel_rfl) rfl; have hst7:=Away.stable (w0:=w0) (κ0:=κ0) (K:=K) (B:=7) (e:=⟨31,zaf,[nGOp c],true⟩) hκd; have hany:Stable X0:=Stable.none
 have h3:NowP w0 S0 κ0 K zam.fn.ntmps (fun S κ L w=>Away w0 κ0 K 7 ⟨31,zaf,[nGOp c],true⟩ g7 κd S κ L w∧X0 S κ L w)
   ⟨[(2,AV.loc 2 31 0 0),(4,AV.sl 1 (List.map nStr ws)),(5,I W),(7,AV.v (.pointer (some ⟨g7,0,none⟩)))],[(2,⟨31,zaf,[nilOp],true⟩)]⟩ a w:=by
  obtain ⟨S,κ,hg,hx⟩:=h2; have q1:=GoodS.set hg 7 (.v (.pointer (some ⟨g7,0,none⟩))) (by rw [hg7]; exact .c (.v _)); exact NowP.trim (hst7.both hany) ⟨S,κ,q1,hx,trivial⟩ [2,4,5,7] [] (by kernel_rfl)
 have z9:(pzO 9).size=4:=by kernel_rfl
 have t9:=pz9 ws (W:Nat) g7; rw [zkt g7 hW,zbe] at t9; refine wp_seq (wp_region ?_); rw [z9,show List.range 4=List.range' 0 4++[] from rfl]; refine segP (hst7.both hany) pz_hb pz_n pz_r9 t9 (by rw [z9]; decide) h3 (fun a2 w2 h4=>?_); show rest.wp zam.P Q a2 w2; have h5:=h4.trim (hst7.both hany) [2,4,7,32,33,34] [] (by kernel_rfl) (st':=⟨[(2,AV.loc 2 31 0 0),(4,AV.sl 1 (List.map nStr ws)),(7,AV.v (.pointer (some ⟨g7,0,none⟩))),(32,.row 32 2 0 (List.length (List.map zae (slotsS W g7)))),(33,I (List.length (List.map zae (slotsS W g7)))),(34,I 0)],[(2,⟨31,zaf,[nilOp],true⟩),(32,⟨2,zad,List.map zae (slotsS W g7),false⟩)]⟩); obtain ⟨S,κ,hg,hk7,κ1,_⟩:=h5.back hκd (by decide) rfl; have e7:=(hg.slots 7).v_inv
 have q2:=GoodS.set hg 7 (.loc 7 31 0 0) (by
  rw [show a2.tmps.getD 7 undef=_ from e7]; have:=VRel.loc (S:=S) (κ:=κ) (D:=fun b=>(Ab.look ((7,(⟨31,zaf,[nGOp c],true⟩:Ent)) :: (2,(⟨31,zaf,[nilOp],true⟩:Ent)) :: [(32,(⟨2,zad,List.map zae (slotsS W g7),false⟩:Ent))]) b).isSome=true) (w:=w2) 7 31 0 0 g7 c7 (by rfl) hk7
  exact this)
 have q4:=GoodS.reent q2 (B:=32) (ent':=⟨2,zad,tsP W,true⟩) rfl (view_put hW hk7 (by rfl) (hg.ents 32 _ rfl))
 exact hQ _ _ (NowP.trim Stable.none (X:=X0) ⟨S,κ,q4,trivial⟩ [2,4,7,32,33,34] [] (by
  unfold stL; rw [show (slotsC W).length=(List.map zae (slotsS W g7)).length by unfold slotsS; simp]
  rfl))
theorem load_op {N:Nat} {ops:Array Oper} {Q:Exit→Act→World→Prop} {i d:Nat} {st:St} {X:Sat2} {K':Act→World→Prop} (ho:opIs ops i d (.load zbk (.global 0))) (hd:d < N) (h:NowP w0 S0 κ0 K N X st a w)
  (hK:∀ a',NowP w0 S0 κ0 K N X { st with t:=(d,.agg (za1.map AV.v)) :: st.t } a' w→K' a' w):wpOp zP ops Q i K' a w:=by
 obtain ⟨S,κ,h1,h2⟩:=h; obtain ⟨o,o1,o2,o3,o4⟩:=ho.get; have hvs:VRel S κ (fun b=>(Ab.look st.m b).isSome=true) w (.fp (za1.map AV.v)) (.pointer (some ⟨0,0,none⟩)):=.c (zns (Good.okw h1)); have hi:aLoad zP (fun _=>none) zbk (.fp (za1.map AV.v))=some { val:=.agg (za1.map AV.v) }:=by kernel_rfl
 obtain ⟨y,e1,e2,_⟩:=ziC (w:=w) hi hvs (fun b ent hb=>by cases hb); refine zhT (w':=w) (y:=y) o1 o4 ?_ ?_
 · have:(Instr.loadAt zbk (a.eval (.global 0))).run zP w=.ok y w:=e1; simp [execOp,o3,this]
 · rw [o2]; exact hK _ ⟨S,κ,h1.put hd _ _ e2,h2⟩
abbrev stO (ws:List ByteArray) (i:Int):St:=⟨[(2,AV.loc 2 31 0 0),(4,AV.sl 1 (List.map nStr ws)),(12,AV.agg (za1.map AV.v)),(13,I i)],[(2,⟨31,zaf,[nilOp],true⟩)]⟩
theorem pz2 (ws:List ByteArray):tSeg zam zT 2 1 1 ⟨[(12,AV.agg (za1.map AV.v)),(2,AV.loc 2 31 0 0),(4,AV.sl 1 (List.map nStr ws))],[(2,⟨31,zaf,[nilOp],true⟩)]⟩ =
  some ⟨[(13,I 0),(12,AV.agg (za1.map AV.v)),(2,AV.loc 2 31 0 0),(4,AV.sl 1 (List.map nStr ws))],[(2,⟨31,zaf,[nilOp],true⟩)]⟩:=by kernel_rfl
theorem zm3 (c:UInt8):∀ (l:List UInt8),∀ x∈splitC c l,x.length≤l.length
 | [],x,h=>by rw [show splitC c []=[[]] from rfl] at h; rw [List.mem_singleton.1 h]; exact Nat.le_refl _
 | b :: r,x,h=>by
   have ih:=zm3 c r; unfold splitC at h; split at h
   · rcases List.mem_cons.1 h with rfl | h
     · simp
     · exact Nat.le_succ_of_le (ih x h)
   · cases hr:splitC c r with
     | nil=>exact absurd hr (zhi c r)
     | cons a t =>
       rw [hr] at h ih; rcases List.mem_cons.1 h with rfl | h
       · have:=ih a List.mem_cons_self; simp; omega
       · exact Nat.le_succ_of_le (ih x (List.mem_cons_of_mem _ h))
theorem formOfK_eq {k:Nat} {hd:List UInt8} (hk:k < 12) (h1:∀ j < k,kw j≠hd) (h2:kw k=hd):zcv hd=k:=by
 unfold zcv
 have:(List.range 12).find? (fun w=>kw w == hd)=some k:=by rw [List.find?_range_eq_some]; refine ⟨by simp [h2],List.mem_range.2 hk,fun j hj=>by simp [h1 j hj]⟩
 rw [this]; rfl
theorem zot {hd:List UInt8} (h:∀ j < 12,kw j≠hd):zcv hd=12:=by
 unfold zcv
 have:(List.range 12).find? (fun w=>kw w == hd)=none:=by rw [List.find?_range_eq_none]; exact fun j hj=>by simp [h j hj]
 rw [this]; rfl
theorem forms_get {k:Nat} (hk:k < 12):(formsT.map fun p=>(⟨tx p.1,p.2⟩:zbO))[k]?=some ⟨tx (kw k),(((slotsC k).length+1:Nat):Int)⟩:=by rcases lt12 hk with rfl | rfl | rfl | rfl | rfl | rfl | rfl | rfl | rfl | rfl | rfl | rfl <;> rfl
theorem pz_body {l:List UInt8} (hl:l.length < 4294967281) (h:NowP w0 S0 κ0 K zam.fn.ntmps X0 ⟨[(0,AV.v (.string (tx l)))],[]⟩ a w):pzC.wp zam.P (PostC w0 S0 κ0 K zam.fn.ntmps .ret (stR (parS l))) a w:=by
 have fin:∀ a' w',NowP w0 S0 κ0 K zam.fn.ntmps X0 (stR (parS l)) a' w'→PostC w0 S0 κ0 K zam.fn.ntmps .ret (stR (parS l)) .ret a' w':=fun a' w' hn=>by obtain ⟨S,κ,hg,_⟩:=hn; exact ⟨rfl,S,κ,hg⟩
 rw [pz_shape]; refine wp_seq (pzStep pz_r0 (pz0 (tx l)) h (fun a1 w1 h1=>?_)); have t1:=pz1 (tx l); rw [show (({ data:={ toList:=[32] } }:ByteArray))=tx [32] from rfl,c_Split hl,zgJ] at t1; refine wp_seq (pzStep pz_r1 t1 h1 (fun a2 w2 h2=>?_)); have hsum:∀ x∈splitC 32 l,x.length < 4294967281:=fun x hx=>Nat.lt_of_le_of_lt (zm3 32 l x hx) hl
 have hslen:=zjR 32 l; have hpar:parS l=(match splitC 32 l with | []=>none | k :: ws=>if zcv k < 12∧ws.length=(slotsC (zcv k)).length then zbE (slotsC (zcv k)) ws (blankS (zcv k)) else none):=rfl; have hne:=zhi 32 l; generalize splitC 32 l=wl at h2 hsum hslen hpar hne
 cases wl with
 | nil=>exact absurd rfl hne
 | cons hd tl =>
 simp only at hpar
 have h3:=h2.freeze Stable.none pz_n [11] rfl (st':=⟨[(2,AV.loc 2 31 0 0),(4,.sl 1 (List.map nStr ((hd :: tl).map tx)))],[(2,⟨31,zaf,[nilOp],true⟩)]⟩) (by
  generalize List.map nStr ((hd :: tl).map tx)=xs
  simp [za3,zf6,zes,zbf,snap,Ab.look])
 have z2:(pzO 2).size=2:=by kernel_rfl
 refine wp_seq (wp_seq (wp_region ?_)); rw [z2,show List.range 2=0 :: (List.range' 1 1++[]) from rfl,wpOps_cons]; refine load_op (d:=12) (by unfold opIs; kernel_rfl) (by decide) h3 (fun a4 h4=>?_); refine segP Stable.none pz_hb pz_n pz_r2 (pz2 ((hd :: tl).map tx)) (by rw [z2]; decide) h4 (fun a5 w5 h5=>?_); have h6:=h5.trim Stable.none [2,4,12,13] [] (st':=stO ((hd :: tl).map tx) 0) (by kernel_rfl); refine wp_block (wp_loop (fun a w=>∃ k:Nat,k≤12∧(∀ j < k,kw j≠hd)∧NowP w0 S0 κ0 K zam.fn.ntmps X0 (stO ((hd :: tl).map tx) k) a w) (fun a _=>12 - cnt a 13) ⟨0,Nat.zero_le _,fun j hj=>absurd hj (Nat.not_lt_zero j),h6⟩ ?_)
 rintro a w ⟨k,hk,hall,hn⟩
 have hc0:cnt a 13=k:=by rw [hn.cnt (n:=(k:Int)) rfl]; simp
 refine wp_seq (pzStep pz_r3 (pz3 ((hd :: tl).map tx) k) hn (fun a7 w7 h7=>?_)); refine wp_seq (wp_cond (h7.bool (b:=decide ((k:Int) < 12)) rfl) ?_); by_cases hlt:k < 12
 rotate_left
 · rw [decide_eq_false (by omega),iNs]; have hkl:k=12:=by omega
   subst hkl; have hF:=zot hall; have hP:parS l=none:=by rw [hpar,if_neg (fun q=>by omega)]
   have h8:=h7.trim Stable.none [2] [] (st':=⟨[(2,AV.loc 2 31 0 0)],[(2,⟨31,zaf,[nilOp],true⟩)]⟩) (by kernel_rfl); refine wp_exit (wp_seq (pzStep pz_r17 pz17 h8 (fun a9 w9 h9=>wp_ret ?_))); refine fin a9 w9 ?_; rw [hP]; exact h9
 rw [decide_eq_true (by omega),if_pos rfl]; refine wp_skip ?_; have h8:=h7.trim Stable.none [2,4,12,13] [] (st':=stO ((hd :: tl).map tx) k) (by kernel_rfl); have t4:=pz4 k hlt ((hd :: tl).map tx); rw [cPQ,cPQ,zkA,show ((k:Nat):Int).toNat=k from rfl,forms_get hlt,Option.bind_some] at t4; refine wp_seq (wp_block (wp_seq (pzStep pz_r4 t4 h8 (fun a9 w9 h9=>?_)))); have t5:=pz5 ((hd :: tl).map tx) k (tx (kw k)) (((slotsC k).length+1:Nat):Int); rw [zao (by decide),zix,show Int.toNat 0=0 from rfl,List.map_cons,List.getElem?_cons_zero,Option.bind_some,tx_beq] at t5; refine wp_seq (wp_seq (pzStep pz_r5 t5 h9 (fun aA wA hA=>?_))); refine wp_cond (hA.bool (b:=!decide (kw k=hd)) rfl) ?_; by_cases hkw:kw k=hd
 rotate_left
 · rw [decide_eq_false hkw,Bool.not_false,if_pos rfl]; have hB:=hA.trim Stable.none [2,4,12,13] [6] (st':=stO ((hd :: tl).map tx) k) (by kernel_rfl); refine wp_exit ?_; refine pzStep pz_r16 (pz16 ((hd :: tl).map tx) k) hB (fun aC wC hC=>?_); rw [w6Q] at hC; refine ⟨⟨k+1,hlt,fun j hj=>?_,by exact_mod_cast hC⟩,?_⟩
   · rcases Nat.lt_succ_iff_lt_or_eq.1 hj with q | q
     · exact hall j q
     · rw [q]; exact hkw
   · have:cnt aC 13=k+1:=by rw [hC.cnt (n:=(k:Int)+1) rfl]; omega
     show 12 - cnt aC 13 < 12 - cnt a 13; omega
 rw [decide_eq_true hkw,Bool.not_true,iNs]; refine wp_skip ?_; have hF:=formOfK_eq hlt hall hkw; rw [hF] at hpar; have hB:=hA.trim Stable.none [2,4,5,6] [] (st':=⟨[(2,AV.loc 2 31 0 0),(4,AV.sl 1 (List.map nStr ((hd :: tl).map tx))),(5,I k),(6,AV.loc 6 2 0 0)],[(2,⟨31,zaf,[nilOp],true⟩),(6,⟨2,zdr,[zbQ ⟨tx (kw k),(((slotsC k).length+1:Nat):Int)⟩],true⟩)]⟩) (by kernel_rfl); refine wp_seq (wp_seq (pzStep pz_r6 (pz6 ((hd :: tl).map tx) k (tx (kw k)) (((slotsC k).length+1:Nat):Int)) hB (fun aC wC hC=>?_))); refine wp_cond (hC.bool (b:=(((List.map nStr ((hd :: tl).map tx)).length:Int) != (((slotsC k).length+1:Nat):Int))) rfl) ?_; by_cases hwl:tl.length=(slotsC k).length
 rotate_left
 · rw [show ((((List.map nStr ((hd :: tl).map tx)).length:Int) != (((slotsC k).length+1:Nat):Int)))=true from by rw [bne_iff_ne,List.length_map,List.length_map,List.length_cons]; omega,if_pos rfl]; have hP:parS l=none:=by rw [hpar,if_neg (fun q=>hwl q.2)]
   have hD:=hC.trim Stable.none [2] [] (st':=⟨[(2,AV.loc 2 31 0 0)],[(2,⟨31,zaf,[nilOp],true⟩)]⟩) (by kernel_rfl); refine wp_seq (pzStep pz_r7 pz7 hD (fun aE wE hE=>wp_ret (fin aE wE ?_))); rw [hP]; exact hE
 rw [show ((((List.map nStr ((hd :: tl).map tx)).length:Int) != (((slotsC k).length+1:Nat):Int)))=false from by rw [bne_eq_false_iff_eq,List.length_map,List.length_map,List.length_cons]; omega,iNs]; refine wp_skip ?_; rw [if_pos ⟨hlt,hwl⟩] at hpar; have hD:=hC.trim Stable.none [2,4,5] [] (st':=⟨[(2,AV.loc 2 31 0 0),(4,AV.sl 1 (List.map nStr ((hd :: tl).map tx))),(5,I k)],[(2,⟨31,zaf,[nilOp],true⟩)]⟩) (by kernel_rfl); have t8:=pz8 ((hd :: tl).map tx) k; rw [c_blank hlt,zez] at t8; refine wp_seq (pzStep pz_r8 t8 hD (fun aE wE hE=>?_)); refine wp_seq (pz_mid _ _ k hlt hE (fun aF wF hF'=>?_)); refine pz_loop hd tl k hlt hwl (fun x hx=>hsum x (by simp [hx])) hF' (fun o ho aG wG hG=>?_) (fun hb aG wG hG=>?_)
 · refine wp_seq (pzStep pz_r15 (pz15 o) hG (fun aH wH hH=>wp_ret (fin aH wH ?_))); rw [hpar,ho]; exact hH
 · refine fin aG wG ?_; rw [hpar,hb]; exact hG
theorem par_ok:CallOK zP (single zbn zOrc):=by
 refine ora (o:=oPar) (fun args=>by unfold zOrc; simp (decide:=true) only [if_false,if_true]) pz_enters (fun args r ms' hr=>?_); unfold oPar at hr; split at hr
 case h_2=>cases hr
 rename_i s; split at hr
 case isFalse=>cases hr
 rename_i hs; injection hr with hr; injection hr with h1 h2; subst h1 h2; refine ⟨rfl,fun w S κ vals hvl hS hk hv=>?_⟩; have hf:zam.P.funcs[zbn]?=some zam.fn:=by kernel_rfl
 refine ziw (args:=[AV.v (.string s)]) (ms:=[]) (frz:=false) (ex:=.ret) (st:=stR (parS s.data.toList)) hf pz_hb (show 1≤zam.fn.ntmps by decide) hvl hS hk hv (fun b ent hb=>by simp [Ab.look] at hb) (fun b b' g c c' hd=>by simp [Dm,Ab.look] at hd) (fun id=>by simp) (fun a hg=>?_) ?_ ?_ ?_
 · obtain ⟨S,κ,hg⟩:=hg; have hl:s.data.toList.length < 4294967281:=hs; exact pz_body hl ⟨S,κ,hg,trivial⟩
 · unfold parR; cases parS s.data.toList <;> kernel_rfl
 · kernel_rfl
 · unfold parR; cases parS s.data.toList <;> kernel_rfl
theorem zi1 {l:List UInt8} (hl:l.length < 4294967281):cw zbn [.v (.string (tx l))] []=some (zgs (parR l)):=by refine zf9 par_ok ?_; show (if (tx l).size < 4294967281 then some (AV.tup [AV.agg (nGOp (parR (tx l).data.toList).1),I (parR (tx l).data.toList).2],[]) else none)=_; rw [if_pos (by rw [zbi]; exact hl),zc7]; rfl
end
end Go.Proofs.YtdclabgakicjeaaDoor
namespace Go.Proofs.YtdclabgakicjeaaDoor
open Go.Ab Go.Str
set_option maxRecDepth 100000
def readP:List (List UInt8)→List GOp→Int→List GOp×Int×Int
 | [],_,_=>([],0,0)
 | [x],acc,n=>if x=[] then (if 300 < acc.length then ([],0,3) else (acc,0,0)) else ([],n,7)
 | x :: y :: r,acc,n=>match parS x with
   | none=>([],n,7)
   | some o=>readP (y :: r) (acc++[o]) (n+1)
def readS (l:List UInt8):List GOp×Int×Int:=readP (splitC 10 l) [] 1
theorem readP_none {x y:List UInt8} {r:List (List UInt8)} {acc:List GOp} {n:Int} (h:parS x=none):readP (x :: y :: r) acc n=([],n,7):=by rw [readP,h]
theorem zm1 {x y:List UInt8} {r:List (List UInt8)} {acc:List GOp} {n:Int} {o:GOp} (h:parS x=some o):readP (x :: y :: r) acc n=readP (y :: r) (acc++[o]) (n+1):=by rw [readP,h]
theorem c_Read1:∀ (m:Nat) (l:List UInt8) (acc:List GOp) (n:Int),l.length≤m→0≤n→n+l.length≤1000000000→acc.length+l.length≤1000000000→zd7 (List.map nGOp acc) (tx l) n=some (zfg (readP (splitC 10 l) acc n)):=by
 intro m
 induction m with
 | zero =>
   intro l acc n hm hn h1 h2; obtain rfl:l=[]:=List.length_eq_zero_iff.1 (by omega); refine zii _ _ _ ?_; rw [show (zfn:ByteArray)=tx [] from rfl,tx_beq,decide_eq_true rfl,Bool.not_true,zat,show splitC 10 []=[[]] from rfl,readP,if_pos rfl]; by_cases h3:300 < acc.length
   · rw [zax (by rw [List.length_map]; omega),cPQ,if_pos h3]; rfl
   · rw [zaA (by rw [List.length_map]; omega),cPQ,if_neg h3,List.take_length]; rfl
 | succ m ih =>
   intro l acc n hm hn h1 h2; by_cases he:l=[]
   · subst he; exact ih [] acc n (by simp) hn h1 h2
   refine zii _ _ _ ?_; rw [show (zfn:ByteArray)=tx [] from rfl,tx_beq,decide_eq_false he,Bool.not_false,zaD,show (zhD:ByteArray)=tx [10] from rfl,c_Cut (by omega),zlc]; rcases Int.lt_or_le (Lib.index l [10]) 0 with hx | hx
   · have hx1:Lib.index l [10]=-1:=by have:=Lib.index_ge l [10]; omega
     have e:Lib.cut l [10]=(l,[],false):=by unfold Lib.cut; rw [iNQ]
     rw [e,Bool.not_false,zaD,cPQ,ziR 10 l hx1,readP,if_neg he]; rfl
   · obtain ⟨i,hi⟩:=Int.eq_ofNat_of_zero_le hx; have hs:=zjQ 10 l i hi; have e:Lib.cut l [10]=(l.take i,l.drop (i+1),true):=by unfold Lib.cut; rw [if_pos hx,hi]; simp
     have hpos:0 < l.length:=List.length_pos_iff.2 he; rw [e,Bool.not_true,zat,zi1 (by rw [List.length_take]; omega),zcb,hs]
     obtain ⟨y,r,hy⟩:∃ y r,splitC 10 (l.drop (i+1))=y :: r:=by
      cases h:splitC 10 (l.drop (i+1)) with
      | nil=>exact absurd h (zhi 10 _)
      | cons y r=>exact ⟨y,r,rfl⟩
     cases hp:parS (l.take i) with
     | none=>rw [show parR (l.take i)=(zOp,7) by unfold parR; rw [hp],show ((7:Int) != 0)=true from rfl,zaD,cPQ,hy,readP_none hp]; rfl
     | some o=>rw [show parR (l.take i)=(o,0) by unfold parR; rw [hp],show ((0:Int) != 0)=false from rfl,zat,hy,zm1 hp,← hy]; have hnext:=ih (l.drop (i+1)) (acc++[o]) (n+1) (by rw [List.length_drop]; omega) (by omega) (by rw [List.length_drop]; omega) (by rw [List.length_drop]; simp; omega); rw [zao rfl,zao (by rw [List.length_map]; omega),zao rfl,w6Q]; rw [show List.map nGOp acc++[nGOp o]=List.map nGOp (acc++[o]) by simp]; exact hnext
theorem c_Read {l:List UInt8} (hl:l.length≤900000000):cw zfc [.v (.string (tx l))] []=some (zfg (readS l)):=
 znf (tx l) (c_Read1 l.length l [] 1 (Nat.le_refl _) (by omega) (by omega) (by simp; omega))
def SmO (o:GOp):Prop:=o.Bounds.length < 1000000000∧o.Script.Pages.length < 1000000000∧o.Script.Answers.length < 1000000000∧o.Event.Pages.length < 1000000000
theorem c_ops (a b:List GOp) (ha:∀ o∈a,SmO o) (hl:a.length < 1000000000):cw ziK [.sl 31 (List.map nGOp a),.sl 31 (List.map nGOp b)] []=some (zay (decide (a=b))):=by
 refine zoV a b ?_; by_cases hlen:a.length=b.length
 rotate_left
 · rw [show (((List.map nGOp a).length:Int) != ((List.map nGOp b).length:Int))=true from by rw [bne_iff_ne,List.length_map,List.length_map]; omega,zaD,decide_eq_false (fun e=>hlen (by rw [e]))]; rfl
 rw [show (((List.map nGOp a).length:Int) != ((List.map nGOp b).length:Int))=false from by rw [bne_eq_false_iff_eq,List.length_map,List.length_map]; omega,zat]
 have key:zeo a b (0:Nat)=some (zay (decide (a.drop 0=b.drop 0))):=by
  refine zdX a (fun i r=>zeo a b (i:Nat)=some (zay (decide (a.drop i=b.drop i)))) ?_ ?_
  · refine zj1 a b _ ?_; rw [zaA (by rw [List.length_map]; omega),decide_eq_true (by rw [List.drop_length,hlen,List.drop_length])]; rfl
  · intro i x r hi hx hr ih; refine zj1 a b _ ?_; have hib:i < b.length:=by omega
    obtain ⟨s1,s2,s3,s4⟩:=ha x (by rw [← hx]; exact List.getElem_mem hi); rw [zax (by rw [List.length_map]; omega),cPQ,zhb,show ((i:Nat):Int).toNat=i from rfl,List.getElem?_eq_getElem hi,Option.bind_some,cPQ,zhb,List.getElem?_eq_getElem hib,Option.bind_some,hx,c_rSame _ _ s1 s2 s3 s4,zaE]; rw [List.drop_eq_getElem_cons hi,List.drop_eq_getElem_cons hib,hx]; by_cases he:x=b[i]
    · rw [decide_eq_true he,Bool.not_true,zat,w6Q,show ((i:Nat):Int)+1=((i+1:Nat):Int) by omega,ih]; congr 2; exact decide_eq_decide.2 ⟨fun e=>by rw [e,he],fun e=>(List.cons.inj e).2⟩
    · rw [decide_eq_false he,Bool.not_false,zaD,decide_eq_false (fun e=>he (List.cons.inj e).1)]; rfl
 exact key
theorem readL_len {w:List UInt8} {l:List Int} (h:readL w=some l):l.length≤300:=by
 unfold readL at h; split at h
 · injection h with h; subst h; simp
 · split at h
   · rename_i h1; have:=zkK _ _ h; omega
   · cases h
def Sm3 (o:GOp):Prop:=o.Bounds.length≤300∧o.Script.Pages.length≤300∧o.Script.Answers.length≤300∧o.Event.Pages.length≤300
theorem putL_sm {o:GOp} {l:List Int} {k:Nat} (ho:Sm3 o) (hl:l.length≤300):Sm3 (putL l k o):=by obtain ⟨a,b,c,d⟩:=ho; unfold putL Sm3; split <;> exact ⟨by assumption,by assumption,by assumption,by assumption⟩
theorem putN_sm {o:GOp} {n:Int} {k:Nat} (ho:Sm3 o):Sm3 (putN n k o):=by obtain ⟨a,b,c,d⟩:=ho; unfold putN Sm3; split <;> exact ⟨by assumption,by assumption,by assumption,by assumption⟩
theorem zm0:∀ (ps:List (Bool×Nat)) (ws:List (List UInt8)) (c o:GOp),Sm3 c→zbE ps ws c=some o→Sm3 o
 | [],_,c,o,hc,h=>by simp only [zbE,Option.some.injEq] at h; exact h▸hc
 | p :: ps,[],c,o,hc,h=>by simp [zbE] at h
 | p :: ps,w :: ws,c,o,hc,h=>by
   unfold zbE at h; split at h
   · rename_i c' h1; refine zm0 ps ws c' o ?_ h; unfold read1 at h1; split at h1
     · cases hr:readL w with
       | none=>rw [hr] at h1; cases h1
       | some l=>rw [hr] at h1; injection h1 with h1; rw [← h1]; exact putL_sm hc (readL_len hr)
     · cases hr:numS w with
       | none=>rw [hr] at h1; cases h1
       | some l=>rw [hr] at h1; injection h1 with h1; rw [← h1]; exact putN_sm hc
   · cases h
theorem parS_sm {l:List UInt8} {o:GOp} (h:parS l=some o):Sm3 o:=by
 unfold parS at h; split at h
 · cases h
 · split at h
   · rename_i h1; refine zm0 _ _ _ _ ?_ h; rcases lt12' h1.1 with q | q | q | q | q | q | q | q | q | q | q | q <;> rw [q] <;> exact ⟨by decide,by decide,by decide,by decide⟩
   · cases h
theorem Sm3.smo {o:GOp} (h:Sm3 o):SmO o:=⟨by have:=h.1; omega,by have:=h.2.1; omega,by have:=h.2.2.1; omega,by have:=h.2.2.2; omega⟩
end Go.Proofs.YtdclabgakicjeaaDoor
namespace Go.Proofs.YtdclabgakicjeaaDoor
open Go.Ab
instance (p:GPart):Decidable (OkPart p):=by unfold OkPart; infer_instance
theorem zpf (p:GPart) (l:List GPart):sumMax (p :: l)=p.Max+sumMax l:=by simp [sumMax]
theorem sumMax_bd {l:List GPart} (h:∀ p∈l,OkPart p):0≤sumMax l∧sumMax l≤40*l.length:=by
 induction l with
 | nil=>simp [sumMax]
 | cons p l ih=>have h1:=ih (fun q hq=>h q (by simp [hq])); have h2:=(h p (by simp)).1; rw [zpf,List.length_cons]; omega
end Go.Proofs.YtdclabgakicjeaaDoor
namespace Go.Proofs.YtdclabgakicjeaaDoor
open Go.Ab
theorem kind2 {x:GPart} (h:OkPart x):x.Kind=1∨x.Kind=2:=by unfold OkPart at h; omega
end Go.Proofs.YtdclabgakicjeaaDoor
namespace Go.Proofs.YtdclabgakicjeaaDoor
open Go.Ab
theorem paperIx_at {ps:List zaq} {x:zap} {k:Nat} {p:zaq} (hk:zff ps x=some (k,p)):ps[k]?=some p∧p.Code=x.Paper∧p.Variant=x.Variant:=by obtain ⟨h1,h2,_⟩:=fnd_at hk; simp only [Bool.and_eq_true,beq_iff_eq] at h2; exact ⟨h1,h2⟩
section
variable {s:zbN} (h:OkSetup s)
include h
end
end Go.Proofs.YtdclabgakicjeaaDoor
namespace Go.Proofs.YtdclabgakicjeaaDoor
open Go.Ab
def DOk (d:zaa):Prop:=0≤d.At∧d.L.length≤600
abbrev mD (d:zaa):Mem:=[(1000,⟨2,zab,[zac d],true⟩)]
theorem tmod_lt {a n:Int} (hn:0 < n):-n < a.tmod n∧a.tmod n < n:=by have h1:=Int.tmod_lt_of_pos a hn; refine ⟨?_,h1⟩; have h2:=Int.tmod_lt_of_pos (-a) hn; rw [Int.neg_tmod] at h2; omega
theorem c_Light (t:List Int):cw zh7 [.sl 1 (List.map zai t)] []=some (zay (decide ((t.length:Int)≤600))):=
 zop t (by rw [List.length_map]; rfl)
theorem c_Roll (t:List Int):cw ziL [.sl 1 (List.map zai t)] []=some (ziO ⟨t,0⟩):=zoW t rfl
theorem zaG (d:zaa) (n:Int) (hd:DOk d) (hn:n≤4611686018427387904):∃ (r:Int) (d':zaa),cw zah [.loc 1000 2 0 0,I n] (mD d)=some (zec (r,d'))∧0≤r∧(r < n∨r=0)∧DOk d':=by
 by_cases h1:(d.L.length:Int)≤d.At
 · refine ⟨0,d,zd5 d n ?_,by omega,.inr rfl,hd⟩; simp (disch:=omega) only [List.length_map,zax]; rfl
 by_cases h2:n < 1
 · refine ⟨0,d,zd5 d n ?_,by omega,.inr rfl,hd⟩; simp (disch:=omega) only [List.length_map,zax,zaA]; rfl
 obtain ⟨ha,hl⟩:=hd; have hlt:d.At.toNat < d.L.length:=by omega
 have hb:=tmod_lt (a:=d.L[d.At.toNat]) (n:=n) (by omega); have hd':DOk ⟨d.L,d.At+1⟩:=⟨by show 0≤d.At+1; omega,hl⟩
 by_cases h3:(d.L[d.At.toNat]).tmod n < 0
 · refine ⟨(d.L[d.At.toNat]).tmod n+n,⟨d.L,d.At+1⟩,zd5 d n ?_,by omega,.inl (by omega),hd'⟩; simp (disch:=omega) [zax,zaA,zao,hlt,w64_id]; rfl
 · refine ⟨(d.L[d.At.toNat]).tmod n,⟨d.L,d.At+1⟩,zd5 d n ?_,by omega,.inl (by omega),hd'⟩; simp (disch:=omega) [zax,zaA,zao,hlt,w64_id]; rfl
theorem zeN (d:zaa) (n:Int) (hd:DOk d) (hn:n≤4611686018427387904):∃ (r:Bool) (d':zaa),cw zaS [.loc 1000 2 0 0,I n] (mD d)=some (zfV (r,d'))∧DOk d':=by obtain ⟨r,d',h,_,_,hd'⟩:=zaG d n hd hn; exact ⟨_,d',zmc d n (by simp only [h,zaj]; rfl),hd'⟩
theorem zgi (d:zaa) (l:List Int) (hd:DOk d) (hl:l≠[]) (hl2:l.length≤1000):∃ (r:Int) (d':zaa),cw zba [.loc 1000 2 0 0,.sl 1 (List.map zai l)] (mD d)=some (zec (r,d'))∧r∈l∧DOk d':=by
 obtain ⟨r,d',h,h0,h1,hd'⟩:=zaG d l.length hd (by omega); have hpos:0 < l.length:=List.length_pos_iff.2 hl; have hlt:r.toNat < l.length:=by omega
 refine ⟨l[r.toNat],d',zme d l ?_,List.getElem_mem hlt,hd'⟩; simp (disch:=omega) only [List.length_map,h,zaj,zao,zcI,List.getElem?_eq_getElem hlt,Option.bind_some]; rfl
theorem c_Rule (d:zaa) (hd:DOk d):∃ (r:zbd) (d':zaa),cw zfT [.loc 1000 2 0 0] (mD d)=some (zfX (r,d'))∧0≤r.Tolerance∧r.Tolerance < 3∧DOk d':=by obtain ⟨b,d1,h1,hd1⟩:=zeN d 2 hd (by omega); obtain ⟨n,d2,h2,h0,h3,hd2⟩:=zaG d1 3 hd1 (by omega); refine ⟨⟨b,n⟩,d2,zmf d ?_,h0,by show n < 3; omega,hd2⟩; simp only [h1,h2,zaB,zaj]; rfl
def DPaper (p:zaq):Prop:=p.Parts.length≤3∧1≤p.Parts.length∧∀ x∈p.Parts,OkPart x∧x.Max≤6
theorem DPaper.ok {p:zaq} (h:DPaper p) (h1:0≤p.Code∧p.Code≤31) (h2:0≤p.Variant∧p.Variant < 4):OkPaper p:=by obtain ⟨a,b,c⟩:=h; refine ⟨h1,h2,by omega,fun x hx=>(c x hx).1,?_⟩; have:=(sumMax_bd (fun x hx=>(c x hx).1)).2; omega
theorem zkW (d:zaa) (a b:Int) (hd:DOk d):∃ (p:zaq) (d':zaa),cw zbs [.loc 1000 2 0 0,I a,I b] (mD d)=some (zfs (p,d'))∧p.Code=a∧p.Variant=b∧DPaper p∧DOk d':=by
 obtain ⟨n0,d0,e0,a0,b0,hd0⟩:=zaG d 4 hd (by omega); obtain ⟨n1,d1,e1,a1,b1,hd1⟩:=zaG d0 3 hd0 (by omega); by_cases h1:0 < n1
 · obtain ⟨n2,d2,e2,a2,b2,hd2⟩:=zaG d1 2 hd1 (by omega); obtain ⟨n3,d3,e3,a3,b3,hd3⟩:=zaG d2 4 hd2 (by omega); obtain ⟨n4,d4,e4,a4,b4,hd4⟩:=zaG d3 2 hd3 (by omega)
   have start:∀ y,zdz a b (n0,d0) (n2,d2) (n3,d3)=some y→cw zbs [.loc 1000 2 0 0,I a,I b] (mD d)=some y:=by intro y hy; refine zhE d a b ?_; simp (disch:=omega) only [e0,e1,e2,e3,zaj,zax,zao,zaF,hy]
   by_cases h4:0 < n4
   · obtain ⟨n5,d5,e5,a5,b5,hd5⟩:=zaG d4 4 hd4 (by omega); refine ⟨⟨a,b,[⟨1,3+n0,0,0,0,0⟩,⟨2,1+n2,0,0,4,n3⟩,⟨1,2+n5,0,0,0,0⟩]⟩,d5,start _ (zfG _ _ _ _ _ ?_),rfl,rfl,⟨by simp,by simp,?_⟩,hd5⟩
     · simp (disch:=omega) only [e4,e5,zaj,zax,zao,zaF,w64_id]; rfl
     · intro x hx; simp only [List.mem_cons,List.not_mem_nil,or_false] at hx; rcases hx with rfl | rfl | rfl <;> exact ⟨by unfold OkPart; dsimp only; omega,by dsimp only; omega⟩
   · refine ⟨⟨a,b,[⟨1,3+n0,0,0,0,0⟩,⟨2,1+n2,0,0,4,n3⟩]⟩,d4,start _ (zfG _ _ _ _ _ ?_),rfl,rfl,⟨by simp,by simp,?_⟩,hd4⟩
     · simp (disch:=omega) only [e4,zaj,zaA,zao,zaF,w64_id]; rfl
     · intro x hx; simp only [List.mem_cons,List.not_mem_nil,or_false] at hx; rcases hx with rfl | rfl <;> exact ⟨by unfold OkPart; dsimp only; omega,by dsimp only; omega⟩
 · obtain ⟨n4,d4,e4,a4,b4,hd4⟩:=zaG d1 2 hd1 (by omega)
   have start:∀ y,zcR a b (n0,d0) (n1,d1)=some y→cw zbs [.loc 1000 2 0 0,I a,I b] (mD d)=some y:=by intro y hy; refine zhE d a b ?_; simp (disch:=omega) only [e0,e1,zaj,zaA,hy]
   by_cases h4:0 < n4
   · obtain ⟨n5,d5,e5,a5,b5,hd5⟩:=zaG d4 4 hd4 (by omega); refine ⟨⟨a,b,[⟨1,3+n0,0,0,0,0⟩,⟨1,2+n5,0,0,0,0⟩]⟩,d5,start _ (ze5 _ _ _ _ ?_),rfl,rfl,⟨by simp,by simp,?_⟩,hd5⟩
     · simp (disch:=omega) only [e4,e5,zaj,zax,zao,zaF,w64_id]; rfl
     · intro x hx; simp only [List.mem_cons,List.not_mem_nil,or_false] at hx; rcases hx with rfl | rfl <;> exact ⟨by unfold OkPart; dsimp only; omega,by dsimp only; omega⟩
   · refine ⟨⟨a,b,[⟨1,3+n0,0,0,0,0⟩]⟩,d4,start _ (ze5 _ _ _ _ ?_),rfl,rfl,⟨by simp,by simp,?_⟩,hd4⟩
     · simp (disch:=omega) only [e4,zaj,zaA,zao,zaF,w64_id]; rfl
     · intro x hx; simp only [List.mem_cons,List.not_mem_nil,or_false] at hx; subst hx; exact ⟨by unfold OkPart; dsimp only; omega,by dsimp only; omega⟩
theorem c_Scheme (d:zaa) (p:zaq) (hd:DOk d) (hp:DPaper p) (hok:OkPaper p):∃ (c:zaQ) (d':zaa),cw zeS [.loc 1000 2 0 0,.agg (zas p)] (mD d)=some (ze2 (c,d'))∧zji p c∧Short c∧DOk d':=by
 have hl:=hp.1; have hl2:=hp.2.1; obtain ⟨b,d0,e0,hd0⟩:=zeN d 6 hd (by omega)
 have good:∀ W:List Int,W.length=p.Parts.length→(∀ k∈W,0≤k∧k≤2)→zji p ⟨List.replicate p.Parts.length [],W⟩∧Short ⟨List.replicate p.Parts.length [],W⟩:=by
  intro W hW hk; refine ⟨⟨hok,by simp,hW,fun j x ks k q1 q2 q3=>⟨?_,hk k (List.mem_of_getElem? q3)⟩⟩,?_⟩
  · have:=List.mem_of_getElem? q2; rw [List.mem_replicate] at this; rw [this.2]; exact ⟨by simp,fun j hj=>by simp at hj⟩
  · intro ks hks; rw [List.mem_replicate] at hks; rw [hks.2]; simp
 cases b with
 | true =>
   obtain ⟨n1,d1,e1,a1,b1,hd1⟩:=zaG d0 p.Parts.length hd0 (by omega); obtain ⟨n2,d2,e2,a2,b2,hd2⟩:=zaG d1 2 hd1 (by omega); have hlt:n1.toNat < p.Parts.length:=by omega
   obtain ⟨g1,g2⟩:=good ((List.replicate p.Parts.length 0).set n1.toNat (1+n2)) (by simp) (by
    intro k hk; rcases List.mem_or_eq_of_mem_set hk with h | h
    · rw [List.mem_replicate] at h; omega
    · omega)
   refine ⟨_,d2,zha d p ?_,g1,g2,hd2⟩; have hlt':n1.toNat < (List.replicate p.Parts.length (0:Int)).length:=by simpa using hlt
   simp (disch:=omega) only [List.length_map,zao,zaF,e0,e1,e2,zaB,zaj,zaD,Int.toNat_natCast,List.length_replicate,Nat.zero_add,map_rep zai,zcI,List.getElem?_eq_getElem hlt',Option.bind_some]; refine zio _ _ _ _ _ ?_; simp (disch:=omega) only [List.length_map,zao,zaF,Int.toNat_natCast,List.length_replicate,Nat.zero_add,List.length_set,Nat.le_refl,w64_id]; rw [show List.take p.Parts.length (List.replicate p.Parts.length [AV.sl 1 []])=List.replicate p.Parts.length [AV.sl 1 []] from List.take_of_length_le (by simp),List.take_of_length_le (Nat.le_of_eq (by simp only [List.length_set,List.length_replicate]))]; rw [show List.replicate p.Parts.length [AV.sl 1 []]=List.map zbw (List.replicate p.Parts.length []) by simp [zbw],show List.replicate p.Parts.length [I 0]=List.map zai (List.replicate p.Parts.length 0) by simp [zai],show [I (1+n2)]=zai (1+n2) from rfl,map_set']; rfl
 | false =>
   obtain ⟨g1,g2⟩:=good (List.replicate p.Parts.length 0) (by simp) (by
    intro k hk
    rw [List.mem_replicate] at hk; omega)
   refine ⟨_,d0,zha d p ?_,g1,g2,hd0⟩; simp (disch:=omega) only [List.length_map,zao,zaF,e0,zaB,zat,Int.toNat_natCast]; refine zhS _ _ ?_; simp (disch:=omega) only [List.length_map,zao,zaF,Int.toNat_natCast,List.length_replicate,Nat.zero_add,Nat.le_refl]; rw [show List.take p.Parts.length (List.replicate p.Parts.length [AV.sl 1 []])=List.replicate p.Parts.length [AV.sl 1 []] from List.take_of_length_le (by simp),List.take_of_length_le (Nat.le_of_eq (by simp only [List.length_set,List.length_replicate]))]; rw [show List.replicate p.Parts.length [AV.sl 1 []]=List.map zbw (List.replicate p.Parts.length []) by simp [zbw],show List.replicate p.Parts.length [I 0]=List.map zai (List.replicate p.Parts.length 0) by simp [zai]]; rfl
def zdN (ps:List zaq):Prop:=1≤ps.length∧ps.length≤3∧(∀ p∈ps,DPaper p∧(0≤p.Code∧p.Code≤1)∧(0≤p.Variant∧p.Variant≤1))∧∀ p∈ps,∀ q∈ps,p.Code=q.Code→p.Variant=q.Variant→p=q
def ziq (ps:List zaq) (cs:List zaQ):Prop:=∀ (j:Nat) (p:zaq) (c:zaQ),ps[j]?=some p→cs[j]?=some c→zji p c∧Short c
theorem c_Papers (d:zaa) (hd:DOk d):∃ (ps:List zaq) (cs:List zaQ) (d':zaa),cw zcm [.loc 1000 2 0 0] (mD d)=some (zcq ((ps,cs),d'))∧zdN ps∧cs.length=ps.length∧ziq ps cs∧DOk d':=by
 have loop:∀ (ps:List zaq),zdN ps→∀ (d:zaa),DOk d→∃ (cs:List zaQ) (d':zaa),zbg (List.map zas ps) (List.map zbF []) d 0=some (zcq ((ps,cs),d'))∧cs.length=ps.length∧ziq ps cs∧DOk d':=by
  intro ps hps d hd; have hpl:=hps.2.1; refine zgc ps (fun i r=>∀ (cs:List zaQ) (d:zaa),(cs.length:Int)=i→ziq ps cs→DOk d→∃ (cs':List zaQ) (d':zaa),zbg (List.map zas ps) (List.map zbF cs) d i=some (zcq ((ps,cs'),d'))∧cs'.length=ps.length∧ziq ps cs'∧DOk d') ?_ ?_ [] d (by simp) (by intro j p c _ h; simp at h) hd
  · intro cs d hcs hok hd; refine ⟨cs,d,zgC _ _ _ _ ?_,by omega,hok,hd⟩; simp (disch:=omega) only [List.length_map,zaA,Nat.zero_add,Nat.le_refl,zaF]; rw [List.take_of_length_le (by simp),List.take_of_length_le (by simp)]; rfl
  · intro i hi r hr ih cs d hcs hok hd; obtain ⟨g1,g2,g3⟩:=hps.2.2.1 _ (List.getElem_mem hi); obtain ⟨c,d1,e1,o1,o2,hd1⟩:=c_Scheme d ps[i] hd g1 (g1.ok (by omega) (by omega))
    obtain ⟨cs',d',e2,o3,o4,hd'⟩:=ih (cs++[c]) d1 (by simp; omega) (by
     intro j p c' hp hc; by_cases hj:j < cs.length
     · rw [List.getElem?_append_left hj] at hc; exact hok j p c' hp hc
     · have hjl:=(List.getElem?_eq_some_iff.1 hc).1; simp at hjl; have hji:j=cs.length:=by omega
       subst hji; simp at hc; subst hc; have:i=cs.length:=by omega
       subst this; rw [List.getElem?_eq_getElem hi] at hp; injection hp with hp; subst hp
       exact ⟨o1,o2⟩) hd1
    refine ⟨cs',d',zgC _ _ _ _ ?_,o3,o4,hd'⟩; simp (disch:=omega) only [List.length_map,zax,zao,zaF,Nat.zero_add,Int.toNat_natCast,zcQ,List.getElem?_eq_getElem hi,Option.bind_some,e1,ziF,w64_id,zbh,e2]
 obtain ⟨p0,d0,e0,a0,b0,g0,hd0⟩:=zkW d 0 0 hd; obtain ⟨b,d1,e1,hd1⟩:=zeN d0 2 hd0 (by omega)
 cases b with
 | true =>
   obtain ⟨p2,d2,e2,a2,b2,g2,hd2⟩:=zkW d1 0 1 hd1; obtain ⟨b',d3,e3,hd3⟩:=zeN d2 2 hd2 (by omega)
   have start:∀ y,zc5 (p0,d0) (p2,d2)=some y→cw zcm [.loc 1000 2 0 0] (mD d)=some y:=by intro y hy; refine zg9 d ?_; simp (disch:=omega) only [e0,e1,e2,zct,zaB,zaD,zao,zaF,hy]
   cases b' with
   | true =>
     obtain ⟨p4,d4,e4,a4,b4,g4,hd4⟩:=zkW d3 1 0 hd3
     obtain ⟨cs,d',e5,o3,o4,hd'⟩:=loop [p0,p2,p4] (by
      refine ⟨by simp,by simp,?_,?_⟩ <;> simp only [List.mem_cons,List.not_mem_nil,or_false]
      · rintro p (rfl | rfl | rfl)
        · exact ⟨g0,by omega,by omega⟩
        · exact ⟨g2,by omega,by omega⟩
        · exact ⟨g4,by omega,by omega⟩
      · rintro p (rfl | rfl | rfl) q (rfl | rfl | rfl) h1 h2 <;> first | rfl | omega) d4 hd4
     refine ⟨[p0,p2,p4],cs,d',start _ (zfl _ _ ?_),?_,o3,o4,hd'⟩
     · simp (disch:=omega) only [e3,e4,zct,zaB,zaD,zao,zaF]; exact e5
     · refine ⟨by simp,by simp,?_,?_⟩ <;> simp only [List.mem_cons,List.not_mem_nil,or_false]
       · rintro p (rfl | rfl | rfl)
         · exact ⟨g0,by omega,by omega⟩
         · exact ⟨g2,by omega,by omega⟩
         · exact ⟨g4,by omega,by omega⟩
       · rintro p (rfl | rfl | rfl) q (rfl | rfl | rfl) h1 h2 <;> first | rfl | omega
   | false =>
     have hP:zdN [p0,p2]:=by
      refine ⟨by simp,by simp,?_,?_⟩ <;> simp only [List.mem_cons,List.not_mem_nil,or_false]
      · rintro p (rfl | rfl)
        · exact ⟨g0,by omega,by omega⟩
        · exact ⟨g2,by omega,by omega⟩
      · rintro p (rfl | rfl) q (rfl | rfl) h1 h2 <;> first | rfl | omega
     obtain ⟨cs,d',e5,o3,o4,hd'⟩:=loop [p0,p2] hP d3 hd3; refine ⟨[p0,p2],cs,d',start _ (zfl _ _ ?_),hP,o3,o4,hd'⟩; simp (disch:=omega) only [e3,zaB,zat]; exact e5
 | false =>
   obtain ⟨b',d3,e3,hd3⟩:=zeN d1 2 hd1 (by omega)
   have start:∀ y,zcG (p0,d0) (false,d1)=some y→cw zcm [.loc 1000 2 0 0] (mD d)=some y:=by intro y hy; refine zg9 d ?_; simp (disch:=omega) only [e0,e1,zct,zaB,zat,zao,zaF,hy]
   cases b' with
   | true =>
     obtain ⟨p4,d4,e4,a4,b4,g4,hd4⟩:=zkW d3 1 0 hd3
     have hP:zdN [p0,p4]:=by
      refine ⟨by simp,by simp,?_,?_⟩ <;> simp only [List.mem_cons,List.not_mem_nil,or_false]
      · rintro p (rfl | rfl)
        · exact ⟨g0,by omega,by omega⟩
        · exact ⟨g4,by omega,by omega⟩
      · rintro p (rfl | rfl) q (rfl | rfl) h1 h2 <;> first | rfl | omega
     obtain ⟨cs,d',e5,o3,o4,hd'⟩:=loop [p0,p4] hP d4 hd4; refine ⟨[p0,p4],cs,d',start _ (zeJ _ _ ?_),hP,o3,o4,hd'⟩; simp (disch:=omega) only [e3,e4,zct,zaB,zaD,zao,zaF]; exact e5
   | false =>
     have hP:zdN [p0]:=by
      refine ⟨by simp,by simp,?_,?_⟩ <;> simp only [List.mem_cons,List.not_mem_nil,or_false]
      · rintro p rfl
        exact ⟨g0,by omega,by omega⟩
      · rintro p rfl q rfl h1 h2; rfl
     obtain ⟨cs,d',e5,o3,o4,hd'⟩:=loop [p0] hP d3 hd3; refine ⟨[p0],cs,d',start _ (zeJ _ _ ?_),hP,o3,o4,hd'⟩; simp (disch:=omega) only [e3,zaB,zat]; exact e5
def zjh (l:List zaJ):Prop:=2≤l.length∧l.length≤5∧znl l∧(∀ m∈l,m.Papers.length≤2)∧∀ m∈l,m.ID≤15
theorem c_Markers (d:zaa) (hd:DOk d):∃ (l:List zaJ) (d':zaa),cw zeA [.loc 1000 2 0 0] (mD d)=some (zcZ (l,d'))∧zjh l∧DOk d':=by
 have asc1:∀ {l:List zaJ} {m:zaJ},AscBy zaJ.ID l→(∀ x∈l,x.ID < m.ID)→AscBy zaJ.ID (l++[m]):=by
  intro l m h1 h2 j hj; simp at hj; by_cases h:j+1 < l.length
  · rw [List.getElem_append_left (by omega),List.getElem_append_left h]; exact h1 j h
  · have hj':j+1=l.length:=by omega
    rw [List.getElem_append_left (by omega),List.getElem_append_right (by omega)]; simpa using h2 _ (List.getElem_mem (by omega))
 have loop:∀ (k:Nat) (l:List zaJ) (d:zaa) (id:Int),DOk d→0≤id→id≤3*l.length→l.length+k≤5→(∀ m∈l,zlQ m∧AscBy _root_.id m.Papers)→AscBy zaJ.ID l→(∀ m∈l,m.ID≤id)→(∀ m∈l,m.Papers.length≤2)→∃ (l':List zaJ) (d':zaa),zcw (List.map zaT l) d id k=some (zcZ (l',d'))∧(l'.length=l.length+k∧(∀ m∈l',zlQ m∧AscBy _root_.id m.Papers)∧AscBy zaJ.ID l'∧(∀ m∈l',m.Papers.length≤2)∧∀ m∈l',m.ID≤15)∧DOk d':=by
  intro k
  induction k with
  | zero=>intro l d id hd h0 h1 h2 h3 h4 h5 h6; refine ⟨l,d,zge _ _ _ _ ?_,⟨rfl,h3,h4,h6,fun m hm=>by have:=h5 m hm; omega⟩,hd⟩; simp (disch:=omega) only [zaA,zaF]; rfl
  | succ k ih =>
    intro l d id hd h0 h1 h2 h3 h4 h5 h6; obtain ⟨n0,d0,e0,a0,b0,hd0⟩:=zaG d 3 hd (by omega); obtain ⟨n1,d1,e1,a1,hd1⟩:=zgi d0 [-1,-1,1,2,3] hd0 (by simp) (by simp); obtain ⟨n2,d2,e2,a2,hd2⟩:=zgi d1 [1,1,1,2,3] hd1 (by simp) (by simp); obtain ⟨n3,d3,e3,a3,hd3⟩:=zgi d2 [3,2,6,0,1] hd2 (by simp) (by simp); obtain ⟨n4,d4,e4,a4,b4,hd4⟩:=zaG d3 4 hd3 (by omega); have hlt:n4.toNat < ([[0,1],[0],[1],[0,1]]:List (List Int)).length:=by simp; omega
    have hpapers:∀ q∈([[0,1],[0],[1],[0,1]]:List (List Int)),(∀ n∈q,0≤n∧n≤31)∧AscBy _root_.id q∧q.length≤2:=by
     intro q hq; simp only [List.mem_cons,List.not_mem_nil,or_false] at hq
     have A:AscBy _root_.id ([0,1]:List Int):=fun j hj=>by
      simp at hj; have:j=0:=by omega
      subst this; show (0:Int) < 1; omega
     rcases hq with rfl | rfl | rfl | rfl
     · exact ⟨by simp,A,by simp⟩
     · exact ⟨by simp,fun j hj=>by simp at hj,by simp⟩
     · exact ⟨by simp,fun j hj=>by simp at hj,by simp⟩
     · exact ⟨by simp,A,by simp⟩
    obtain ⟨q1,q2,q3⟩:=hpapers _ (List.getElem_mem hlt); simp only [List.mem_cons,List.not_mem_nil,or_false] at a1 a2 a3
    obtain ⟨l',d',e5,o1,hd'⟩:=ih (l++[⟨id+(1+n0),n1,n2,n3,([[0,1],[0],[1],[0,1]]:List (List Int))[n4.toNat]⟩]) d4 (id+(1+n0)) hd4 (by omega) (by simp; omega) (by simp; omega)
     (by
      intro m hm; rcases List.mem_append.1 hm with h | h
      · exact h3 m h
      · simp only [List.mem_singleton] at h; subst h
        refine ⟨⟨?_,?_,?_,?_,q1⟩,q2⟩ <;> dsimp only <;> omega)
     (asc1 h4 (fun x hx=>by have:=h5 x hx; dsimp only; omega))
     (by
      intro m hm; rcases List.mem_append.1 hm with h | h
      · have:=h5 m h; omega
      · simp only [List.mem_singleton] at h; subst h
        dsimp only; omega)
     (by
      intro m hm; rcases List.mem_append.1 hm with h | h
      · exact h6 m h
      · simp only [List.mem_singleton] at h; subst h
        exact q3)
    refine ⟨l',d',zge _ _ _ _ ?_,⟨by have:=o1.1; simp at this; omega,o1.2⟩,hd'⟩; have e6:w64 (((k+1:Nat):Int) - 1)=(k:Int):=by rw [w6Q]; omega
    simp (disch:=omega) only [zax,e0,e1,e2,e3,e4,zaj,zaj,zao,zaF,List.length_map,w64_id,e6]; rw [show ([zbw [0,1],zbw [0],zbw [1],zbw [0,1]]:List (List AV))=List.map zbw [[0,1],[0],[1],[0,1]] from rfl,zn0,List.getElem?_eq_getElem hlt,Option.bind_some]; simp (disch:=omega) only [zao,zaF,List.length_map,w64_id,zbh,e5]
 obtain ⟨n,d0,e0,a0,b0,hd0⟩:=zaG d 4 hd (by omega); obtain ⟨l',d',e1,⟨o1,o2,o3,o4,o5⟩,hd'⟩:=loop (2+n).toNat [] d0 0 hd0 (by omega) (by simp) (by simp; omega) (by simp) (fun j hj=>by simp at hj) (by simp) (by simp); simp at o1; refine ⟨l',d',zke d ?_,⟨by omega,by omega,⟨by omega,o2,o3⟩,o4,o5⟩,hd'⟩; simp only [e0,zaj]; rw [w6Q]; rw [Int.toNat_of_nonneg (by omega)] at e1; exact e1
end Go.Proofs.YtdclabgakicjeaaDoor
namespace Go.Proofs.YtdclabgakicjeaaDoor
open Go.Ab
theorem asc_snoc {α:Type} {f:α→Int} {l:List α} {m:α} (h1:AscBy f l) (h2:∀ x∈l,f x < f m):AscBy f (l++[m]):=by
 intro j hj; simp at hj; by_cases h:j+1 < l.length
 · rw [List.getElem_append_left (by omega),List.getElem_append_left h]; exact h1 j h
 · have hj':j+1=l.length:=by omega
   rw [List.getElem_append_left (by omega),List.getElem_append_right (by omega)]; simpa using h2 _ (List.getElem_mem (by omega))
def zeL (n:Int) (p:zaq) (x:zap):Prop:=
 x.Paper=p.Code∧x.Variant=p.Variant∧x.Number=p.Code*10000+x.Candidate∧(1≤x.Candidate∧x.Candidate≤n)∧(1≤x.Centre∧x.Centre≤3)∧x.Pages.length=2∧(∀ y∈x.Pages,0≤y∧y≤1000000)∧OkAns p x.Answers∧∀ v∈x.Answers,-2≤v∧v≤5
theorem c_DScript (d:zaa) (p:zaq) (c n:Int) (hd:DOk d) (hp:DPaper p) (h1:0≤p.Code∧p.Code≤31) (hc:1≤c∧c≤n) (hn:n≤9):∃ (x:zap) (d':zaa),cw zeT [.loc 1000 2 0 0,.agg (zas p),I c] (mD d)=some (zdm (x,d'))∧zeL n p x∧x.Candidate=c∧DOk d':=by
 have hl:=hp.1; obtain ⟨n0,d0,e0,a0,b0,hd0⟩:=zaG d 3 hd (by omega); obtain ⟨n1,d1,e1,a1,b1,hd1⟩:=zaG d0 3 hd0 (by omega); have loop:=zgc p.Parts (fun i r=>∀ (a:List Int) (d2:zaa),(a.length:Int)=i→DOk d2→(∀ (j:Nat) (x:GPart) (v:Int),p.Parts[j]?=some x→a[j]?=some v→x.Kind≠1→-2≤v∧v < x.Options)→(∀ v∈a,-2≤v∧v≤5)→∃ (x:zap) (d':zaa),zb2 d p c (n0,d0) (n1,d1) (List.map zai a) d2 i=some (zdm (x,d'))∧zeL n p x∧x.Candidate=c∧DOk d') ?_ ?_ [] d1 (by simp) hd1 (by intro j x v _ h; simp at h) (by simp)
 · obtain ⟨x,d',e2,h⟩:=loop; refine ⟨x,d',zkx d p c ?_,h⟩; simp only [e0,e1,zaj]; exact e2
 · intro a d2 ha hd2 hok hva; refine ⟨⟨p.Code*10000+c,p.Code,c,1+n0,p.Variant,[100*c+p.Code,n1],a⟩,d2,zek _ _ _ _ _ _ _ _ ?_,?_,rfl,hd2⟩
   · simp (disch:=omega) only [List.length_map,zaA,Nat.zero_add,Nat.le_refl,zaF,w64_id]; rw [List.take_of_length_le (by simp),List.take_of_length_le (by simp)]; rfl
   · refine ⟨rfl,rfl,rfl,hc,by dsimp only; omega,rfl,?_,⟨by dsimp only; omega,hok⟩,hva⟩; intro y hy; simp only [List.mem_cons,List.not_mem_nil,or_false] at hy; omega
 · intro i hi r hr ih a d2 ha hd2 hok hva; obtain ⟨hx,_⟩:=hp.2.2 _ (List.getElem_mem hi)
   have snoc:∀ v:Int,(p.Parts[i].Kind≠1→-2≤v∧v < p.Parts[i].Options)→∀ (j:Nat) (x:GPart) (w:Int),p.Parts[j]?=some x→(a++[v])[j]?=some w→x.Kind≠1→-2≤w∧w < x.Options:=by
    intro v hv j x w hj hw; by_cases hja:j < a.length
    · rw [List.getElem?_append_left hja] at hw; exact hok j x w hj hw
    · have:=(List.getElem?_eq_some_iff.1 hw).1; simp at this; have hji:j=a.length:=by omega
      subst hji; simp at hw; subst hw; have:i=a.length:=by omega
      subst this; rw [List.getElem?_eq_getElem hi] at hj; injection hj with hj; subst hj; exact hv
   have sn2:∀ v:Int,(-2≤v∧v≤5)→∀ w∈a++[v],-2≤w∧w≤5:=by
    intro v hv w hw; rcases List.mem_append.1 hw with hw | hw
    · exact hva w hw
    · simp only [List.mem_singleton] at hw; subst hw; exact hv
   rcases kind2 hx with hk | hk
   · obtain ⟨x,d',e2,h⟩:=ih (a++[-1]) d2 (by simp; omega) hd2 (snoc _ (fun h=>absurd hk h)) (sn2 _ (by omega)); refine ⟨x,d',zek _ _ _ _ _ _ _ _ ?_,h⟩; simp (disch:=omega) only [List.length_map,zax,zao,zaF,Int.toNat_natCast,zcH,List.getElem?_eq_getElem hi,Option.bind_some,show (p.Parts[i].Kind == 2)=false by rw [hk]; rfl,zat,w64_id,zbh zai,e2]
   · obtain ⟨v,d3,e3,hv,hd3⟩:=zgi d2 [p.Parts[i].Key,0,1,-1,-2] hd2 (by simp) (by simp)
     have hv':-2≤v∧v < p.Parts[i].Options:=by unfold OkPart at hx; simp only [List.mem_cons,List.not_mem_nil,or_false] at hv; omega
     obtain ⟨x,d',e2,h⟩:=ih (a++[v]) d3 (by simp; omega) hd3 (snoc _ (fun _=>hv')) (sn2 _ (by unfold OkPart at hx; omega)); refine ⟨x,d',zek _ _ _ _ _ _ _ _ ?_,h⟩; simp (disch:=omega) only [List.length_map,zax,zao,zaF,Int.toNat_natCast,zcH,List.getElem?_eq_getElem hi,Option.bind_some,show (p.Parts[i].Kind == 2)=true by rw [hk]; rfl,zaD,e3,zaj,w64_id,zbh zai,e2]
def zfL (n:Int) (ps:List zaq) (l:List zap):Prop:=(∀ x∈l,∃ p∈ps,zeL n p x)∧AscBy zap.Number l∧(l.length:Int)≤2*n
theorem c_Scripts (d:zaa) (ps:List zaq) (n:Int) (hd:DOk d) (hps:zdN ps) (hn:0≤n∧n≤9):∃ (l:List zap) (d':zaa),cw zeC [.loc 1000 2 0 0,.sl 3 (List.map zas ps),I n] (mD d)=some (zc0 (l,d'))∧zfL n ps l∧DOk d':=by
 have hpl:=hps.2.1
 let Inv:Int→List zap→Prop:=fun code l=>(∀ x∈l,(∃ p∈ps,zeL n p x)∧x.Number < code*10000)∧AscBy zap.Number l∧(l.length:Int)≤code*n
 let Res:Option (AV×Mem)→Prop:=fun o=>∃ (l:List zap) (d':zaa),o=some (zc0 (l,d'))∧zfL n ps l∧DOk d'
 have stage2:∀ (out:List zap) (d:zaa),Inv 2 out→DOk d→Res (zbl ps n (List.map zan out) d 2):=by intro out d hi hd; refine ⟨out,d,zgf _ _ _ _ _ ?_,⟨fun x hx=>(hi.1 x hx).1,hi.2.1,hi.2.2⟩,hd⟩; simp (disch:=omega) only [zaA,zaF]; rfl
 have step:∀ (code:Int),0≤code→code≤1→(∀ (out:List zap) (d:zaa),Inv (code+1) out→DOk d→Res (zbl ps n (List.map zan out) d (code+1)))→∀ (out:List zap) (d:zaa),Inv code out→DOk d→Res (zbl ps n (List.map zan out) d code):=by
  intro code hc0 hc1 next out d hi hd
  have third:∀ (l:List zaq),(∀ p∈l,p∈ps∧p.Code=code)→l.length≤3→∀ (m:Nat) (c:Int) (out:List zap) (d:zaa),c+m=n+1→1≤c→(∀ x∈out,(∃ p∈ps,zeL n p x)∧x.Number < code*10000+c)→AscBy zap.Number out→(out.length:Int)≤code*n+(c - 1)→DOk d→Res (zbX ps n code (List.map zas l) (List.map zan out) d c):=by
   intro l hl hll m
   induction m with
   | zero =>
     intro c out d hc h1 g1 g2 g3 hd; obtain ⟨l',d',e1,h⟩:=next out d ⟨fun x hx=>⟨(g1 x hx).1,by have:=(g1 x hx).2; rw [Int.add_mul]; omega⟩,g2,by rw [Int.add_mul]; omega⟩ hd
     refine ⟨l',d',zcz _ _ _ _ _ _ _ ?_,h⟩; simp (disch:=omega) only [zaA,w64_id,e1]
   | succ m ih =>
     intro c out d hc h1 g1 g2 g3 hd; have hcn:code*n≤9:=by rcases (by omega:code=0∨code=1) with h | h <;> rw [h] <;> omega
     have hol:out.length≤20:=by omega
     by_cases hlz:0 < l.length
     · obtain ⟨n0,d0,e0,a0,b0,hd0⟩:=zaG d 5 hd (by omega); by_cases h0:0 < n0
       · obtain ⟨n1,d1,e1,a1,b1,hd1⟩:=zaG d0 l.length hd0 (by omega); have hlt:n1.toNat < l.length:=by omega
         obtain ⟨hp1,hp2⟩:=hl _ (List.getElem_mem hlt); obtain ⟨q1,q2,q3⟩:=hps.2.2.1 _ hp1; obtain ⟨x,d2,e2,hx,hxc,hd2⟩:=c_DScript d1 l[n1.toNat] c n hd1 q1 (by omega) (by omega) hn.2; have hxn:=hx.2.2.1
         obtain ⟨l',d',e3,h⟩:=ih (c+1) (out++[x]) d2 (by omega) (by omega)
          (by
           intro y hy; rcases List.mem_append.1 hy with hy | hy
           · exact ⟨(g1 y hy).1,by have:=(g1 y hy).2; omega⟩
           · simp only [List.mem_singleton] at hy; subst hy
             exact ⟨⟨_,hp1,hx⟩,by rw [hxn,hp2,hxc]; omega⟩)
          (asc_snoc g2 (fun y hy=>by rw [hxn,hp2,hxc]; exact (g1 y hy).2))
          (by simp; omega) hd2
         refine ⟨l',d',zcz _ _ _ _ _ _ _ ?_,h⟩; simp (disch:=omega) only [List.length_map,zax,e0,zaj,e1,zao,zaF,Nat.zero_add,zcQ,List.getElem?_eq_getElem hlt,Option.bind_some,e2,ziG,w64_id,zbh zan,e3]
       · obtain ⟨l',d',e3,h⟩:=ih (c+1) out d0 (by omega) (by omega) (fun y hy=>⟨(g1 y hy).1,by have:=(g1 y hy).2; omega⟩) g2 (by omega) hd0; refine ⟨l',d',zcz _ _ _ _ _ _ _ ?_,h⟩; simp (disch:=omega) only [List.length_map,zax,zaA,e0,zaj,w64_id,e3]
     · obtain ⟨l',d',e1,h⟩:=next out d ⟨fun x hx=>⟨(g1 x hx).1,by have:=(g1 x hx).2; rw [Int.add_mul]; omega⟩,g2,by rw [Int.add_mul]; omega⟩ hd
       refine ⟨l',d',zcz _ _ _ _ _ _ _ ?_,h⟩; simp (disch:=omega) only [List.length_map,zax,zaA,w64_id,e1]
  have second:=zgc ps (fun i r=>∀ l:List zaq,(∀ p∈l,p∈ps∧p.Code=code)→(l.length:Int)≤i→Res (zbW ps n (List.map zan out) d code (List.map zas l) i)) ?_ ?_ [] (by simp) (by simp)
  · obtain ⟨l',d',e1,h⟩:=second; refine ⟨l',d',zgf _ _ _ _ _ ?_,h⟩; simp (disch:=omega) only [zax]; exact e1
  · intro l hl hll; obtain ⟨l',d',e1,h⟩:=third l hl (by omega) n.toNat 1 out d (by omega) (by omega) (fun x hx=>⟨(hi.1 x hx).1,by have:=(hi.1 x hx).2; omega⟩) hi.2.1 (by have:=hi.2.2; omega) hd; refine ⟨l',d',zdU _ _ _ _ _ _ _ ?_,h⟩; simp (disch:=omega) only [List.length_map,zaA,e1]
  · intro i hi' r hr ih l hl hll; by_cases hcode:ps[i].Code=code
    · obtain ⟨l',d',e1,h⟩:=ih (l++[ps[i]]) (by
       intro p hp; rcases List.mem_append.1 hp with hp | hp
       · exact hl p hp
       · simp only [List.mem_singleton] at hp; subst hp
         exact ⟨List.getElem_mem hi',hcode⟩) (by simp; omega)
      refine ⟨l',d',zdU _ _ _ _ _ _ _ ?_,h⟩; simp (disch:=omega) only [List.length_map,zax,zao,zaF,Int.toNat_natCast,zcQ,List.getElem?_eq_getElem hi',Option.bind_some,show (ps[i].Code == code)=true by simpa using hcode,zaD,w64_id,zbh zas,e1]
    · obtain ⟨l',d',e1,h⟩:=ih l hl (by omega); refine ⟨l',d',zdU _ _ _ _ _ _ _ ?_,h⟩; simp (disch:=omega) only [List.length_map,zax,zao,zaF,Int.toNat_natCast,zcQ,List.getElem?_eq_getElem hi',Option.bind_some,show (ps[i].Code == code)=false by simpa using hcode,zat,w64_id,e1]
 have stage1:=step 1 (by omega) (by omega) stage2; have stage0:=step 0 (by omega) (by omega) stage1; obtain ⟨l,d',e1,h⟩:=stage0 [] d ⟨by simp,fun j hj=>by simp at hj,by simp⟩ hd; exact ⟨l,d',zkg d ps n e1,h⟩
def zjn:zaq:=⟨0,0,[]⟩
theorem zjp (ps:List zaq) (x:zap) (hl:ps.length≤1000000):cw zeU [.sl 3 (List.map zas ps),.agg (zan x)] []=some (zgu (((zff ps x).map (·.2)).getD zjn)):=by
 refine zoq ps x ?_; have key:=find_gen ps (fun p=>p.Code == x.Paper && p.Variant == x.Variant) (fun i=>zdQ ps x i) (fun o=>zgu ((o.map (·.2)).getD zjn)) ?_ ?_ ?_
 · exact key
 · exact zgZ _ _ _ (by simp (disch:=omega) [zaA] <;> rfl)
 · intro i hi h; refine zgZ _ _ _ ?_; rw [Bool.and_eq_true] at h; simp (disch:=omega) [zax,zao,h.1,h.2]; rfl
 · intro i hi y h hk; refine zgZ _ _ _ ?_
   cases h1:(ps[i].Code == x.Paper) with
   | false=>simp (disch:=omega) [zax,zao,w64_id,h1,hk]
   | true=>rw [h1,Bool.true_and] at h; simp (disch:=omega) [zax,zao,w64_id,h1,h,hk]
theorem c_Monitor (d:zaa) (hd:DOk d):∃ (r:zaN) (d':zaa),cw zeB [.loc 1000 2 0 0] (mD d)=some (zeD (r,d'))∧OkMon r∧DOk d':=by obtain ⟨n0,d0,e0,a0,b0,hd0⟩:=zaG d 3 hd (by omega); obtain ⟨n1,d1,e1,a1,b1,hd1⟩:=zaG d0 2 hd0 (by omega); obtain ⟨n2,d2,e2,a2,b2,hd2⟩:=zaG d1 3 hd1 (by omega); obtain ⟨n3,d3,e3,a3,b3,hd3⟩:=zaG d2 (1+n0) hd2 (by omega); refine ⟨⟨n1,n2,1+n0,1+n3⟩,d3,zkf d ?_,by refine ⟨?_,?_,?_,?_⟩ <;> dsimp only <;> omega,hd3⟩; simp (disch:=omega) only [e0,e1,e2,zaj,w64_id,e3]; rfl
structure DSetup (s:zbN):Prop where
 papers:zdN s.Papers
 markers:zjh s.Markers
 scripts:zfL 4 s.Papers s.Scripts
theorem paperIx_of {ps:List zaq} (hps:zdN ps) {n:Int} {p:zaq} {x:zap} (hp:p∈ps) (hx:zeL n p x):∃ k,zff ps x=some (k,p):=by
 unfold zff
 cases hf:fnd (fun p=>p.Code == x.Paper && p.Variant == x.Variant) 0 ps with
 | none=>have:=zjz.1 hf p hp; rw [hx.1,hx.2.1] at this; simp at this
 | some q=>obtain ⟨k,p'⟩:=q; obtain ⟨h1,h2,_⟩:=fnd_at hf; simp only [Bool.and_eq_true,beq_iff_eq] at h2; have:=hps.2.2.2 p' (List.mem_of_getElem? h1) p hp (by rw [h2.1,hx.1]) (by rw [h2.2,hx.2.1]); rw [this]; exact ⟨k,rfl⟩
theorem zoE {n m:Int} (h:n≤m) {ps:List zaq} {l:List zap} (hl:zfL n ps l):zfL m ps l:=
 ⟨fun x hx=>by
  obtain ⟨p,hp,a,b,c,d,e⟩:=hl.1 x hx
  exact ⟨p,hp,a,b,c,⟨d.1,by omega⟩,e⟩,hl.2.1,by have:=hl.2.2; omega⟩
end Go.Proofs.YtdclabgakicjeaaDoor
namespace Go.Proofs.YtdclabgakicjeaaDoor
open Go.Ab
def Sat {β:Type} (Q:β→Prop) (o:Option β):Prop:=∃ y,o=some y∧Q y
theorem sat_of {β:Type} {Q:β→Prop} {a b:Option β} (h:∀ y,a=some y→b=some y) (ha:Sat Q a):Sat Q b:=by obtain ⟨y,e,hq⟩:=ha; exact ⟨y,h y e,hq⟩
theorem zjN {β:Type} {Q:β→Prop} {y:β} (h:Q y):Sat Q (some y):=⟨y,rfl,h⟩
theorem ofScript {s:zbN} (hs:DSetup s) {x:zap} (hx:x∈s.Scripts):∃ k p,zff s.Papers x=some (k,p)∧p∈s.Papers∧zeL 4 p x∧DPaper p:=by obtain ⟨p,hp,h⟩:=hs.scripts.1 x hx; obtain ⟨k,hk⟩:=paperIx_of hs.papers hp h; exact ⟨k,p,hk,hp,h,(hs.papers.2.2.1 p hp).1⟩
def Nf (n:Int):Prop:=-1000000000≤n∧n≤1000000000
structure EvF (e:zaz):Prop where
 kind:e.Kind=0
 marker:e.Marker=0
 time:Nf e.Stamp.Time
 source:Nf e.Stamp.Source
 seq:Nf e.Stamp.Seq
 script:Nf e.Script
 part:Nf e.Part
 value:Nf e.Value
 few:e.Pages.length≤12
 pages:∀ p∈e.Pages,Nf p
theorem zkO {n:Int} (hn:n≤9) {ps:List zaq} (hps:zdN ps) {x:zap} {p:zaq} (hp:p∈ps) (h:zeL n p x):Nf x.Number∧Nf x.Paper∧Nf x.Candidate∧Nf x.Centre∧Nf x.Variant∧(∀ y∈x.Pages,Nf y)∧(∀ y∈x.Answers,Nf y)∧x.Pages.length=2∧x.Answers.length≤3:=by
 obtain ⟨a,b,c,d,e,f,g,i,j⟩:=h; obtain ⟨q1,q2,q3⟩:=hps.2.2.1 p hp; unfold Nf; refine ⟨by omega,by omega,by omega,by omega,by omega,fun y hy=>?_,fun y hy=>?_,f,by rw [i.1]; exact q1.1⟩
 · have:=g y hy; omega
 · have:=j y hy; omega
theorem c_Mark (d:zaa) (s:zbN) (a b:Int) (hd:DOk d) (hs:DSetup s) (ha:Nf a) (hb:Nf b):∃ (e:zaz) (d':zaa),cw zfS [.loc 1000 2 0 0,.agg (zdR s),I a,I b] (mD d)=some (zfW (e,d'))∧EvF e∧DOk d':=by
 have hm:=hs.markers; have hsl:=hs.scripts.2.2; have hpl:=hs.papers.2.1; obtain ⟨n0,d0,e0,a0,b0,hd0⟩:=zaG d s.Markers.length hd (by have:=hm.2.1; omega); have hlt:n0.toNat < s.Markers.length:=by have:=hm.1; omega
 have hid:Nf s.Markers[n0.toNat].ID:=by have:=hm.2.2.2.2 _ (List.getElem_mem hlt); have:=(hm.2.2.1.2.1 _ (List.getElem_mem hlt)).1.1; unfold Nf; omega
 have z0:Nf 0:=⟨by decide,by decide⟩
 by_cases hz:s.Scripts.length=0
 · refine ⟨⟨⟨b,s.Markers[n0.toNat].ID,a⟩,0,0,0,0,0,[]⟩,d0,zfO _ _ _ _ ?_,⟨rfl,rfl,hb,hid,ha,z0,z0,z0,by simp,by simp⟩,hd0⟩; simp (disch:=omega) only [List.length_map,e0,zaj,zao,zc6,List.getElem?_eq_getElem hlt,Option.bind_some,hz,Int.ofNat_zero,Int.natCast_zero,beq_self_eq_true,zaD,Nat.zero_add,Nat.le_refl,zaF]; rfl
 · obtain ⟨n1,d1,e1,a1,b1,hd1⟩:=zaG d0 s.Scripts.length hd0 (by omega); have hl1:n1.toNat < s.Scripts.length:=by omega
   obtain ⟨k,p,hk,hp,hx,hdp⟩:=ofScript hs (List.getElem_mem hl1); have hpp:=hdp.1; have hpq:=hdp.2.1; have hpg:=hx.2.2.2.2.2.1; obtain ⟨n2,d2,e2,a2,b2,hd2⟩:=zaG d1 p.Parts.length hd1 (by omega); have hl2:n2.toNat < p.Parts.length:=by omega
   have hx2:=(hdp.2.2 _ (List.getElem_mem hl2)).1.1; obtain ⟨f1,f2,f3,f4,f5,f6,f7,f8,f9⟩:=zkO (by decide) hs.papers hp hx; have hn2:Nf n2:=by unfold Nf; omega
   obtain ⟨n3,d3,e3,a3,b3,hd3⟩:=zaG d2 (p.Parts[n2.toNat].Max+2) hd2 (by omega); obtain ⟨v,d4,e4,hd4⟩:=zeN d3 12 hd3 (by omega); have hz':((s.Scripts.length:Int) == 0)=false:=by simp; intro h; exact hz (by simpa using h)
   cases v with
   | true=>refine ⟨⟨⟨b,s.Markers[n0.toNat].ID,a⟩,0,s.Scripts[n1.toNat].Number,n2,n3 - 1,0,[]⟩,d4,zfO _ _ _ _ ?_,⟨rfl,rfl,hb,hid,ha,f1,hn2,by unfold Nf; dsimp only; omega,by simp,by simp⟩,hd4⟩; simp (disch:=omega) only [List.length_map,e0,zaj,zao,zc6,List.getElem?_eq_getElem hlt,Option.bind_some,hz',zat,e1,zcB,List.getElem?_eq_getElem hl1,zjp s.Papers _ (show s.Papers.length≤1000000 by omega),hk,Option.map_some,Option.getD_some,zd4,e2,zcH,List.getElem?_eq_getElem hl2,w64_id,e3,e4,zaB,zaD]; exact zjf _ _ _ _ _ _ _ (by simp (disch:=omega) only [Nat.zero_add,Nat.le_refl,zaF,w64_id]; rfl)
   | false =>
     refine ⟨⟨⟨b,s.Markers[n0.toNat].ID,a⟩,0,s.Scripts[n1.toNat].Number,n2,n3 - 1,0,s.Scripts[n1.toNat].Pages⟩,d4,zfO _ _ _ _ ?_,⟨rfl,rfl,hb,hid,ha,f1,hn2,by unfold Nf; dsimp only; omega,by dsimp only; omega,f6⟩,hd4⟩; simp (disch:=omega) only [List.length_map,e0,zaj,zao,zc6,List.getElem?_eq_getElem hlt,Option.bind_some,hz',zat,e1,zcB,List.getElem?_eq_getElem hl1,zjp s.Papers _ (show s.Papers.length≤1000000 by omega),hk,Option.map_some,Option.getD_some,zd4,e2,zcH,List.getElem?_eq_getElem hl2,w64_id,e3,e4,zaB,zat]
     exact zin _ _ _ _ _ _ _ (by
      simp (disch:=omega) only [Nat.zero_add,List.length_map,Nat.le_refl,zaF,w64_id]; rw [List.take_of_length_le (by simp)]
      rfl)
theorem c_Full (d:zaa) (s:zbN) (n:Int) (hd:DOk d) (hs:DSetup s) (hn:0≤n∧n≤1000):∃ (l:List zaz) (d':zaa),cw zfR [.loc 1000 2 0 0,.agg (zdR s),I n] (mD d)=some (zeb (l,d'))∧l.length≤120∧(∀ e∈l,EvF e)∧DOk d':=by
 have hm2:=hs.markers.2.1; have hsl:=hs.scripts.2.2; have hpl:=hs.papers.2.1
 let Q:AV×Mem→Prop:=fun y=>∃ (l:List zaz) (d':zaa),y=zeb (l,d')∧l.length≤120∧(∀ e∈l,EvF e)∧DOk d'
 have loop:=zgc s.Scripts (fun i _=>∀ (out:List zaz) (d:zaa),(out.length:Int)≤15*i→(∀ e∈out,EvF e)→DOk d→Sat Q (zdh s n (List.map zaU out) d i)) ?_ ?_ [] d (by simp) (by simp) hd
 · obtain ⟨y,e1,l,d',rfl,h⟩:=loop; exact ⟨l,d',zmd _ _ _ e1,h⟩
 · intro out d hl hp hd; refine sat_of (fun y=>zhm _ _ _ _ _) ?_; simp (disch:=omega) only [List.length_map,zaA,zaF]; exact zjN ⟨out,d,rfl,by omega,hp,hd⟩
 · intro i hi r _ ih out d hl hp hd; obtain ⟨k,p,hk,hpm,hx,hdp⟩:=ofScript hs (List.getElem_mem hi); have hpp:=hdp.1; have hpg:=hx.2.2.2.2.2.1; obtain ⟨f1,f2,f3,f4,f5,f6,f7,f8,f9⟩:=zkO (by decide) hs.papers hpm hx; refine sat_of (fun y=>zhm _ _ _ _ _) ?_; simp (disch:=omega) only [List.length_map,zax,zao,Int.toNat_natCast,zcB,List.getElem?_eq_getElem hi,Option.bind_some,zjp s.Papers _ (show s.Papers.length≤1000000 by omega),hk,Option.map_some,Option.getD_some,zd4]; refine zgc s.Markers (fun j _=>∀ (out:List zaz) (d:zaa),(out.length:Int)≤15*i+3*j→(∀ e∈out,EvF e)→DOk d→Sat Q (zdi s n i p (List.map zaU out) d j)) ?_ ?_ out d (by omega) hp hd
   · intro out d hl hp hd; refine sat_of (fun y=>zhn _ _ _ _ _ _ _) ?_; simp (disch:=omega) only [List.length_map,zaA,w64_id]; exact ih out d (by omega) hp hd
   · intro j hj r _ ih2 out d hl hp hd; refine sat_of (fun y=>zhn _ _ _ _ _ _ _) ?_; simp (disch:=omega) only [List.length_map,zax]
     have hid:Nf s.Markers[j].ID:=by have:=hs.markers.2.2.2.2 _ (List.getElem_mem hj); have:=(hs.markers.2.2.1.2.1 _ (List.getElem_mem hj)).1.1; unfold Nf; omega
     refine zgc p.Parts (fun q _=>∀ (out:List zaz) (d:zaa),(out.length:Int)≤15*i+3*j+q→(∀ e∈out,EvF e)→DOk d→Sat Q (zbV s n i p j (List.map zaU out) d q)) ?_ ?_ out d (by omega) hp hd
     · intro out d hl hp hd; refine sat_of (fun y=>zho _ _ _ _ _ _ _ _) ?_; simp (disch:=omega) only [List.length_map,zaA,w64_id]; exact ih2 out d (by omega) hp hd
     · intro q hq r _ ih3 out d hl hp hd; have hmx:=(hdp.2.2 _ (List.getElem_mem hq)).1.1; refine sat_of (fun y=>zho _ _ _ _ _ _ _ _) ?_; by_cases hkd:p.Parts[q].Kind=1
       · obtain ⟨n0,d0,e0,a0,b0,hd0⟩:=zaG d 4 hd (by omega); by_cases hz:0 < n0
         · obtain ⟨n1,d1,e1,a1,b1,hd1⟩:=zaG d0 (p.Parts[q].Max+1) hd0 (by omega); simp (disch:=omega) only [List.length_map,zax,zao,Int.toNat_natCast,zcH,List.getElem?_eq_getElem hq,Option.bind_some,show (p.Parts[q].Kind == 1)=true by simpa using hkd,zaD,e0,zaj,zc6,List.getElem?_eq_getElem hj,zcB,List.getElem?_eq_getElem hi,w64_id,e1,zaF,zbh zaU]; refine ih3 (out++[_]) d1 (by simp; omega) ?_ hd1; intro x hx'; rcases List.mem_append.1 hx' with hx' | hx'
           · exact hp x hx'
           · simp only [List.mem_singleton] at hx'; subst hx'; exact ⟨rfl,rfl,by unfold Nf; dsimp only; omega,hid,by unfold Nf; dsimp only; omega,f1,by unfold Nf; dsimp only; omega,by unfold Nf; dsimp only; omega,by dsimp only; omega,f6⟩
         · simp (disch:=omega) only [List.length_map,zax,zaA,zao,Int.toNat_natCast,zcH,List.getElem?_eq_getElem hq,Option.bind_some,show (p.Parts[q].Kind == 1)=true by simpa using hkd,zaD,e0,zaj,w64_id]; exact ih3 out d0 (by omega) hp hd0
       · simp (disch:=omega) only [List.length_map,zax,zaA,zao,Int.toNat_natCast,zcH,List.getElem?_eq_getElem hq,Option.bind_some,show (p.Parts[q].Kind == 1)=false by simpa using hkd,zat,w64_id]; exact ih3 out d (by omega) hp hd
end Go.Proofs.YtdclabgakicjeaaDoor
end
