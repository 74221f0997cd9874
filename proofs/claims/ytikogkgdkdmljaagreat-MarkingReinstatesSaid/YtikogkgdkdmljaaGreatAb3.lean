/- Calls: arguments handed over, results taken back. -/
import Derived.Test.YtikogkgdkdmljaaGreatAb2
set_option linter.unusedSimpArgs false
set_option linter.unusedVariables false
noncomputable section
namespace Go.Ab
open Go.RowKit
def Dm (m:Mem):Nat→Prop:=fun b=>(look m b).isSome=true
def noK:Kap:=fun _=>none
def noD:Nat→Prop:=fun _=>False
abbrev EntC (S:Nat→Prop) (w:World) (kb:Option (Nat×Nat)) (ent:Ent):Prop:=EntAt S noK noD w kb ent
def RRel (S:Nat→Prop) (κ:Kap) (D:Nat→Prop) (B:Nat→Prop) (w:World) (r:AV) (x:Value):Prop:=
 match r with
 | .row b z off n=>VRel S κ D w (.row b z off n) x
 | .loc b z i o=>VRel S κ D w (.loc b z i o) x
 | .new z e es=>0 < z∧((x=.slice none 0 0∧es=[])∨∃ g c,B g∧x=.slice (some ⟨g,0,none⟩) es.length c∧EntC S w (some (g,c)) { z,e,es,box:=false })
 | .newm e es=>∃ g c,B g∧x=.map (some g)∧EntC S w (some (g,c)) { z:=0,e,es,box:=false }
 | .newp z e cs=>∃ g c,B g∧x=.pointer (some ⟨g,0,none⟩)∧EntC S w (some (g,c)) { z,e,es:=[cs],box:=true }
 | r=>CRel S w r x
def Left (S:Nat→Prop) (κ:Kap) (ms ms':Mem) (r:AV) (w:World) (e:Ending) (w':World):Prop:=
 ∃ (x:Value) (S':Nat→Prop) (κ':Kap),e=.returned x∧w'.os=w.os∧w'.tape=w.tape∧OutD w w'∧w.heap.size≤w'.heap.size∧(∀ g,g < w.heap.size→(∀ b c,Dm ms b→κ b≠some (g,c))→w'.heap[g]?=w.heap[g]?)∧(∀ g,S g→S' g)∧(∀ g,S' g→S g∨Mine w κ (Dm ms) g)∧(∀ g,S' g→g < w'.heap.size)∧(∀ b,1000≤b→κ' b=κ b)∧(∀ b g c,b < 1000→Dm ms' b→κ' b=some (g,c)→Mine w κ (Dm ms) g)∧(∀ b b' g c c',Dm ms' b→Dm ms' b'→κ' b=some (g,c)→κ' b'=some (g,c')→b=b')∧(∀ b ent,look ms' b=some ent→Dm ms b∧EntAt S' κ' (Dm ms') w' (κ' b) ent)∧RRel S' κ (Dm ms) (Mine w κ (Dm ms)) w' r x
def CallOK (P:Program) (call:zbu):Prop:=
 ∀ f args ms r ms',call f args ms=some (r,ms')→enters P f=true∧∀ (w:World) (S:Nat→Prop) (κ:Kap) (vals:Array Value),vals.size=args.length→(∀ g,S g→g < w.heap.size)→(∀ (k:Nat) (a:AV) (x:Value),args[k]?=some a→vals[k]?=some x→VRel S κ (Dm ms) w a x)→(∀ b ent,look ms b=some ent→EntAt S κ (Dm ms) w (κ b) ent)→(∀ b b' g c c',Dm ms b→Dm ms b'→κ b=some (g,c)→κ b'=some (g,c')→b=b')→Calls P f vals w (Left S κ ms ms' r w)
theorem zih:∀ {m:Mem} {b:Nat} {ent:Ent},look m b=some ent→(b,ent)∈m
 | [],b,ent,h=>by simp [look] at h
 | (j,e) :: r,b,ent,h=>by
   simp only [look] at h; split at h
   · rename_i hb; injection h with h; subst hb; subst h; exact ziR
   · exact ze4 _ (zih h)
theorem zfp:∀ {m:Mem} {b:Nat},b∈ids m→(look m b).isSome=true
 | [],b,h=>by simp [ids] at h
 | (j,e) :: r,b,h=>by
   simp only [look]; split
   · rfl
   · rename_i hne; simp [ids] at h; rcases h with h | ⟨a,h⟩
     · exact absurd h hne
     · exact zfp (by simp [ids]; exact ⟨a,h⟩)
section
variable {S:Nat→Prop} {κ:Kap} {D:Nat→Prop} {w:World} {L:Nat→Option Ent}
def Num (k m b:Nat):Prop:=1000+k≤m∨(950+k≤m∧m < 1000∧b < 1000)
theorem zx1 {wr:List Nat} (hL:∀ b ent,L b=some ent→EntAt S κ D w (κ b) ent):∀ (args:List AV) (k:Nat) (as:List AV) (ms:Mem) (bk:List (Nat×Nat)) (fz:List Nat),zcr L wr k args=some (as,ms,bk,fz)→∀ vals:List Value,vals.length=args.length→(∀ (j:Nat) (a:AV) (x:Value),args[j]?=some a→vals[j]?=some x→VRel S κ D w a x)→as.length=args.length∧(∀ b∈fz,D b)∧(∀ p∈bk,D p.1∧Num k p.2 p.1)∧(bk.map (·.1)).Nodup∧(bk.map (·.2)).Nodup∧bk.map (·.2)=ms.map (·.1)∧(∀ p∈ms,∃ b,(b,p.1)∈bk∧L b=some p.2∧(p.2.box=true→∀ cs∈p.2.es,∀ a∈cs,a.isC 4=true))∧∀ (S':Nat→Prop) (κ':Kap) (D':Nat→Prop),(∀ g,S g→S' g)→(∀ b∈fz,∀ g c,κ b=some (g,c)→S' g)→(∀ p∈bk,D' p.2∧κ' p.2=κ p.1)→∀ (j:Nat) (a:AV) (x:Value),as[j]?=some a→vals[j]?=some x→VRel S' κ' D' w a x:=by
 intro args
 induction args with
 | nil=>intro k as ms bk fz h vals _ _; simp [zcr] at h; obtain ⟨rfl,rfl,rfl,rfl⟩:=h; simp
 | cons a r ih =>
   intro k as ms bk fz h vals hvl hv
   cases vals with
   | nil=>simp at hvl
   | cons x vals =>
     simp only [zcr] at h
     cases hr:zcr L wr (k+1) r with
     | none=>simp [hr] at h
     | some q =>
       obtain ⟨as0,ms0,bk0,fz0⟩:=q; simp only [hr] at h; have ihr:=ih (k+1) as0 ms0 bk0 fz0 hr vals (by simpa using hvl) (fun j a x hj hx=>hv (j+1) a x (by simpa using hj) (by simpa using hx)); obtain ⟨i1,i2,i3,i4,i5,i6,i7,i8⟩:=ihr; have hax:=hv 0 a x rfl rfl
       have fresh:∀ m,m=1000+k∨(m=950+k∧k < 50)→m ∉ bk0.map (·.2):=by intro m hmk hm; simp at hm; obtain ⟨b,hb⟩:=hm; have:=(i3 _ hb).2; simp only [Num] at this; omega
       have wr_case:∀ (m:Nat) (b:Nat) (ent:Ent) (av:AV),(m=1000+k∨(m=950+k∧k < 50∧b < 1000))→L b=some ent→D b→(bk0.all (fun p=>p.1≠b))=true→(ent.box=true→∀ cs∈ent.es,∀ a∈cs,a.isC 4=true)→(∀ (S':Nat→Prop) (κ':Kap) (D':Nat→Prop),(D' m∧κ' m=κ b)→VRel S' κ' D' w av x)→as=av :: as0→ms=(m,ent) :: ms0→bk=(b,m) :: bk0→fz=fz0→as.length=(a :: r).length∧(∀ b∈fz,D b)∧(∀ p∈bk,D p.1∧Num k p.2 p.1)∧(bk.map (·.1)).Nodup∧(bk.map (·.2)).Nodup∧bk.map (·.2)=ms.map (·.1)∧(∀ p∈ms,∃ b,(b,p.1)∈bk∧L b=some p.2∧(p.2.box=true→∀ cs∈p.2.es,∀ a∈cs,a.isC 4=true))∧∀ (S':Nat→Prop) (κ':Kap) (D':Nat→Prop),(∀ g,S g→S' g)→(∀ b∈fz,∀ g c,κ b=some (g,c)→S' g)→(∀ p∈bk,D' p.2∧κ' p.2=κ p.1)→∀ (j:Nat) (a:AV) (y:Value),as[j]?=some a→(x :: vals)[j]?=some y→VRel S' κ' D' w a y:=by
        intro m b ent av hm hl hd hall hcl hvr e1 e2 e3 e4; subst e1; subst e2; subst e3; subst e4; refine ⟨by simp [i1],i2,?_,?_,?_,by simp [i6],?_,?_⟩
        · intro p hp; rcases za1.1 hp with rfl | hp
          · refine ⟨hd,?_⟩; simp only [Num]; omega
          · have:=i3 p hp; refine ⟨this.1,?_⟩; have:=this.2; simp only [Num] at this ⊢; omega
        · simp only [zco,zfD]; refine ⟨?_,i4⟩; intro hm; simp at hm; obtain ⟨c,hc⟩:=hm; have:=zbQ.1 hall _ hc; simp at this
        · simp only [zco,zfD]; exact ⟨fresh m (by omega),i5⟩
        · intro p hp; rcases za1.1 hp with rfl | hp
          · exact ⟨b,ziR,hl,hcl⟩
          · obtain ⟨b',h1,h2,h3⟩:=i7 p hp; exact ⟨b',ze4 _ h1,h2,h3⟩
        · intro S' κ' D' hSS hfz hbk j a y hj hy
          cases j with
          | zero=>simp at hj hy; subst hj; subst hy; exact hvr S' κ' D' (hbk (b,m) ziR)
          | succ j=>exact i8 S' κ' D' hSS hfz (fun p hp=>hbk p (ze4 _ hp)) j a y (by simpa using hj) (by simpa using hy)
       split at h <;> rename_i hcnd <;> clear hcnd
       · split at h
         · rename_i b z
           cases hl:L b with
           | none=>simp [hl] at h
           | some ent =>
             simp only [hl] at h; split at h
             case isFalse=>cases h
             rename_i hc; obtain ⟨hz,hbx,hcl,hall⟩:=hc; simp only [zat,zaG] at h; obtain ⟨e1,e2,e3,e4⟩:=h; obtain ⟨g,c,hd,hk,rfl⟩:=hax.loc_inv; refine wr_case (1000+k) b ent _ (.inl rfl) hl hd hall (fun _ cs hcs a ha=>zdW (zdW hcl cs hcs) a ha) ?_ e1.symm e2.symm e3.symm e4.symm; intro S' κ' D' hh; exact .loc (1000+k) z 0 0 g c hh.1 (hh.2.trans hk)
         · rename_i b z off n
           cases hl:L b with
           | none=>simp [hl] at h
           | some ent =>
             simp only [hl] at h; split at h
             case isFalse=>cases h
             rename_i hc; obtain ⟨hz,hbx,hzp,hall⟩:=hc; simp only [zat,zaG] at h; obtain ⟨e1,e2,e3,e4⟩:=h
             cases hax with
             | c h=>cases h
             | row0 _ _ hd hk=>refine wr_case (1000+k) b ent _ (.inl rfl) hl hd hall (fun hb=>by rw [hbx] at hb; cases hb) ?_ e1.symm e2.symm e3.symm e4.symm; intro S' κ' D' hh; exact .row0 (1000+k) z hh.1 (hh.2.trans hk)
             | row _ _ _ _ g c off' cap hd hk hn ho hcc=>refine wr_case (1000+k) b ent _ (.inl rfl) hl hd hall (fun hb=>by rw [hbx] at hb; cases hb) ?_ e1.symm e2.symm e3.symm e4.symm; intro S' κ' D' hh; exact .row (1000+k) z off n g c off' cap hh.1 (hh.2.trans hk) hn ho hcc
         · rename_i b
           cases hl:L b with
           | none=>simp [hl] at h
           | some ent =>
             simp only [hl] at h; split at h
             case isFalse=>cases h
             rename_i hc; obtain ⟨hz,hbx,hall⟩:=hc; simp only [zat,zaG] at h; obtain ⟨e1,e2,e3,e4⟩:=h; obtain ⟨g,c,hd,hk,rfl⟩:=hax.map_inv; refine wr_case (1000+k) b ent _ (.inl rfl) hl hd hall (fun hb=>by rw [hbx] at hb; cases hb) ?_ e1.symm e2.symm e3.symm e4.symm; intro S' κ' D' hh; exact .map (1000+k) g c hh.1 (hh.2.trans hk)
         · cases h
       · split at h
         · split at h
           case h_2=>cases h
           rename_i b z n
           cases hl:L b with
           | none=>simp [hl] at h
           | some ent =>
             simp only [hl] at h; split at h
             case isFalse=>cases h
             rename_i hc; obtain ⟨hz,hbx,hzp,hn,hb1,hk5,hall⟩:=hc; simp only [zat,zaG] at h; obtain ⟨e1,e2,e3,e4⟩:=h
             cases hax with
             | c h=>cases h
             | row0 _ _ hd hk=>refine wr_case (950+k) b ent _ (.inr ⟨rfl,hk5,hb1⟩) hl hd hall (fun hb=>by rw [hbx] at hb; cases hb) ?_ e1.symm e2.symm e3.symm e4.symm; intro S' κ' D' hh; exact .row0 (950+k) z hh.1 (hh.2.trans hk)
             | row _ _ _ _ g c off' cap hd hk hn ho hcc=>refine wr_case (950+k) b ent _ (.inr ⟨rfl,hk5,hb1⟩) hl hd hall (fun hb=>by rw [hbx] at hb; cases hb) ?_ e1.symm e2.symm e3.symm e4.symm; intro S' κ' D' hh; exact .row (950+k) z 0 n g c off' cap hh.1 (hh.2.trans hk) hn ho hcc
         cases hs:snap L 5 a with
         | none=>simp [hs] at h
         | some a' =>
           simp only [hs,zat,zaG] at h; obtain ⟨rfl,rfl,rfl,rfl⟩:=h; refine ⟨by simp [i1],?_,fun p hp=>⟨(i3 p hp).1,by have:=(i3 p hp).2; simp only [Num] at this ⊢; omega⟩,i4,i5,i6,i7,?_⟩
           · intro b hb; rcases zbF.1 hb with h | h
             · exact ids_D hL 5 a x hax b h
             · exact i2 b h
           · intro S' κ' D' hSS hfz hbk j c y hj hy
             cases j with
             | zero=>simp at hj hy; subst hj; subst hy; exact .c (zg8 hL hSS 5 hax hs (fun b hb=>hfz b (zqM _ hb)))
             | succ j=>exact i8 S' κ' D' hSS (fun b hb=>hfz b (List.mem_append_right _ hb)) hbk j c y (by simpa using hj) (by simpa using hy)
theorem zrO {ms:Mem}:∀ {bk:List (Nat×Nat)} {back:List (Nat×Ent)},backOf ms bk=some back→ids back=bk.map (·.1)∧∀ p∈back,∃ k,(p.1,k)∈bk∧look ms k=some p.2∧p.2.shut=true
 | [],back,h=>by simp [backOf] at h; subst h; simp [ids]
 | (b,k) :: r,back,h=>by
   simp only [backOf] at h; split at h
   · rename_i ent l hl hr; split at h
     case isFalse=>cases h
     rename_i hsh; injection h with h; subst h; obtain ⟨h1,h2⟩:=zrO hr; refine ⟨by simp [ids] at h1 ⊢; exact h1,fun p hp=>?_⟩; rcases za1.1 hp with rfl | hp
     · exact ⟨k,ziR,hl,hsh⟩
     · obtain ⟨k',q1,q2⟩:=h2 p hp; exact ⟨k',ze4 _ q1,q2⟩
   · cases h
theorem shut_spec {ent:Ent} (h:ent.shut=true):ent.box=true→∀ cs∈ent.es,∀ a∈cs,a.isC 4=true:=by unfold Ent.shut at h; intro hb; rw [hb] at h; simp only [zbO,zqN] at h; exact fun cs hcs a ha=>zdW (zdW h cs hcs) a ha
theorem zol {S':Nat→Prop} {w':World}:∀ (k:Nat) {a:AV} {x:Value},a.flat k=true→CRel S w a x→CRel S' w' a x
 | 0,a,x,h,_=>by simp [AV.flat] at h
 | k+1,a,x,h,hr=>by
   cases a <;> simp [AV.flat] at h
   case v=>cases hr; exact .v _
   case agg cs =>
    cases hr with
    | agg _ vs hl h1 hp=>exact .agg cs vs hl h1 fun j c x hc hx=>zol k (zdW h c (zbP hc)) (hp j c x hc hx)
   case tup cs =>
    cases hr with
    | tup _ vs hl hp=>exact .tup cs vs hl fun j c x hc hx=>zol k (zdW h c (zbP hc)) (hp j c x hc hx)
def kapOf (κ:Kap) (bk:List (Nat×Nat)):Kap:=fun k=>match bk.find? (fun p=>p.2 == k) with
 | some p=>κ p.1
 | none=>none
theorem zhh:∀ {bk:List (Nat×Nat)},(bk.map (·.2)).Nodup→∀ p∈bk,kapOf κ bk p.2=κ p.1
 | [],_,p,hp=>by cases hp
 | q :: r,hn,p,hp=>by
   simp only [zco,zfD] at hn; unfold kapOf; rw [List.find?_cons]; rcases za1.1 hp with rfl | hp'
   · simp
   · have hne:(q.2 == p.2)=false:=by rw [beq_eq_false_iff_ne]; intro e; exact hn.1 (by rw [e]; exact zbC.2 ⟨p,hp',rfl⟩)
     simp only [hne]; exact zhh hn.2 p hp'
theorem zd9 {p:Nat×Nat}:∀ {bk:List (Nat×Nat)},p∈ze9 bk↔p∈bk∧1000≤p.2
 | []=>by simp [ze9]
 | (b,k) :: r=>by
   simp only [ze9]; split
   · rename_i h; rw [zd9,za1]; constructor
     · rintro ⟨h1,h2⟩; exact ⟨.inr h1,h2⟩
     · rintro ⟨rfl | h1,h2⟩
       · simp at h2; omega
       · exact ⟨h1,h2⟩
   · rename_i h; rw [za1,zd9,za1]; constructor
     · rintro (rfl | ⟨h1,h2⟩)
       · exact ⟨.inl rfl,by simp; omega⟩
       · exact ⟨.inr h1,h2⟩
     · rintro ⟨rfl | h1,h2⟩
       · exact .inl rfl
       · exact .inr ⟨h1,h2⟩
theorem ziY {b:Nat}:∀ {bk:List (Nat×Nat)},b∈zbZ bk↔∃ k,(b,k)∈bk∧k < 1000
 | []=>by simp [zbZ]
 | (c,k) :: r=>by
   simp only [zbZ]; split
   · rename_i h; rw [za1,ziY]; constructor
     · rintro (rfl | ⟨k',h1,h2⟩)
       · exact ⟨k,by simp,h⟩
       · exact ⟨k',by simp [h1],h2⟩
     · rintro ⟨k',h1,h2⟩
       rcases za1.1 h1 with e | h1
       · injection e with e1 e2; exact .inl e1
       · exact .inr ⟨k',h1,h2⟩
   · rename_i h; rw [ziY]; constructor
     · rintro ⟨k',h1,h2⟩; exact ⟨k',by simp [h1],h2⟩
     · rintro ⟨k',h1,h2⟩
       rcases za1.1 h1 with e | h1
       · injection e with e1 e2; omega
       · exact ⟨k',h1,h2⟩
theorem zvr {g:List Nat} {r0 r:Res} (h:zsw g r0=some r) (h0:r0.kill=none):r={ r0 with kill:=g.head? }∧∀ b,b∈g↔g.head?=some b:=by
 unfold zsw at h; split at h
 · injection h with h; subst h; refine ⟨?_,by simp⟩; cases r0; simp at h0; subst h0; rfl
 · rename_i b; injection h with h; subst h; refine ⟨rfl,fun c=>?_⟩; simp; exact eq_comm
 · cases h
theorem ztM {back:List (Nat×Ent)} {bk:List (Nat×Nat)} {fz:List Nat} {r:AV} {d:Option Nat} {res:Res} (h:zoH back bk fz r d=some res):res.kill=none:=by
 unfold zoH at h
 split at h <;> first
  | (injection h with h; subst h; rfl)
  | (cases h; done)
  | (split at h <;> first | (injection h with h; subst h; rfl) | (cases h; done))
theorem zz4 {P:Program} {C:Cfg} {call:zbu} (hcall:CallOK P call) {d:Option Nat} {f:FuncId} {args:List AV} {r:Res} {vals:Array Value}
  (hS:∀ g,S g→g < w.heap.size) (hDL:∀ b,D b↔(L b).isSome=true) (hinj:∀ b b' g c c',D b→D b'→κ b=some (g,c)→κ b'=some (g,c')→b=b') (hdd:∀ d',d=some d'→¬ D d')
  (hL:∀ b ent,L b=some ent→EntAt S κ D w (κ b) ent) (h:aCall C call L d f args=some r) (hl:vals.size=args.length)
  (hv:∀ (j:Nat) (a:AV) (x:Value),args[j]?=some a→vals[j]?=some x→VRel S κ D w a x):enters P f=true∧Calls P f vals w fun e w'=>∃ x S' κ',e=.returned x∧EffAt S κ D w S' κ' r x w'∧∀ b∈r.frz,D b∧b ∉ ids r.set∧r.kill≠some b:=by
 unfold aCall at h
 cases hp:zcr L (C.wrt f) 0 args with
 | none=>simp [hp] at h
 | some q =>
   obtain ⟨as,ms,bk,fz⟩:=q; simp only [hp] at h; split at h
   case isFalse=>cases h
   rename_i hdis; split at h
   · cases h
   · rename_i rv ms' hc; split at h
     · cases h
     · rename_i back hback; obtain ⟨p1,p2,p3,p4,p5,p6,p7,p8⟩:=zx1 hL args 0 as ms bk fz hp vals.toList (by simpa using hl) (fun j a x hj hx=>hv j a x hj (by simpa using hx)); obtain ⟨hb,hcalls⟩:=hcall f as ms rv ms' hc; refine ⟨hb,?_⟩; obtain ⟨b1,b2'⟩:=zrO hback
       have b2:∀ p∈back,∃ k,(p.1,k)∈bk∧look ms' k=some p.2∧1000≤k∧p.2.shut=true:=fun p hp=>by obtain ⟨k,q1,q2,q3⟩:=b2' p hp; exact ⟨k,(zd9.1 q1).1,q2,(zd9.1 q1).2,q3⟩
       split at h
       case isFalse=>cases h
       split at h
       case h_2=>cases h
       rename_i _ res hres0; obtain ⟨hkr,hgk⟩:=zvr h (ztM hres0); subst hkr; clear h; have h:=hres0; clear hres0
       let Sc:Nat→Prop:=fun g=>S g∨∃ b c,b∈fz∧κ b=some (g,c)
       have hbk:∀ p∈bk,Dm ms p.2∧kapOf κ bk p.2=κ p.1:=fun p hp=>⟨zfp (by
        have:p.2∈bk.map (·.2):=zbC.2 ⟨p,hp,rfl⟩; rw [p6] at this
        exact this),zhh p5 p hp⟩
       have hms:∀ k ent,look ms k=some ent→∃ b,(b,k)∈bk∧L b=some ent∧(ent.box=true→∀ cs∈ent.es,∀ a∈cs,a.isC 4=true):=fun k ent hk=>p7 (k,ent) (zih hk)
       have hdisj:∀ p∈bk,∀ b∈fz,b≠p.1:=fun p hp b hb=>by have h1:=zbQ.1 hdis p hp; have h2:=zbQ.1 h1 b hb; simpa using h2
       have hScne:∀ p∈bk,∀ g c,κ p.1=some (g,c)→¬ S g→¬ Sc g:=by
        intro p hp g c hk hn hs; rcases hs with h | ⟨b,c',hb,hk'⟩
        · exact hn h
        · exact hdisj p hp b hb (hinj b p.1 g c' c (p2 b hb) (p3 p hp).1 hk' hk)
       refine (hcalls w Sc (kapOf κ bk) vals (by rw [hl,p1]) ?_ ?_ ?_ ?_).mono ?_
       · intro g hg; rcases hg with h | ⟨b,c,hb,hk⟩
         · exact hS g h
         · have hdb:=p2 b hb; obtain ⟨ent,hent⟩:=zb0.1 ((hDL b).1 hdb); have:=hL b ent hent; rw [hk] at this; exact this.lt
       · exact fun k a x hk hx=>p8 Sc (kapOf κ bk) (Dm ms) (fun g h=>.inl h) (fun b hb g c hk=>.inr ⟨b,c,hb,hk⟩) hbk k a x hk (by simpa using hx)
       · intro k ent hk; obtain ⟨b,hbk',hlb,hcl⟩:=hms k ent hk; rw [zhh p5 _ hbk']; exact (hL b ent hlb).handed (fun _ h=>.inl h) (fun g c hkb=>hScne (b,k) hbk' g c hkb (by have:=hL b ent hlb; rw [hkb] at this; exact this.notS)) hcl
       · intro k k' g c c' hk hk' e1 e2; obtain ⟨ent,hent⟩:=zb0.1 hk; obtain ⟨ent',hent'⟩:=zb0.1 hk'; obtain ⟨b,hb,_⟩:=hms k ent hent; obtain ⟨b',hb',_⟩:=hms k' ent' hent'; rw [zhh p5 _ hb] at e1; rw [zhh p5 _ hb'] at e2; have hbb:=hinj b b' g c c' (p3 _ hb).1 (p3 _ hb').1 e1 e2; subst hbb
         have inj1:∀ (l:List (Nat×Nat)),(l.map (·.1)).Nodup→∀ x y z,(x,y)∈l→(x,z)∈l→y=z:=by
          intro l hn
          induction l with
          | nil=>intro x y z h; cases h
          | cons q l ihl =>
            intro x y z h1 h2; simp only [zco,zfD] at hn; rcases za1.1 h1 with rfl | h1'
            · rcases za1.1 h2 with h2' | h2'
              · injection h2' with _ h2'; exact h2'.symm
              · exact absurd (zbC.2 ⟨_,h2',rfl⟩) hn.1
            · rcases za1.1 h2 with h2' | h2'
              · exact absurd (zbC.2 ⟨_,h1',by rw [← h2']⟩) hn.1
              · exact ihl hn.2 x y z h1' h2'
         exact inj1 bk p4 _ _ _ hb hb'
       · rintro e w' ⟨x,S1,κ1,rfl,hos,htape,hout,hsz,hblk,hsup,hsnew,hslt,hpar,hmine,hinj1,hents,hres⟩
         have hfr:∀ b∈(frzOf rv bk fz),D b∧b∈fz:=by
          intro b hb; unfold frzOf at hb; split at hb
          · cases hb
          · exact ⟨p2 b hb,hb⟩
         have hMine:∀ g,Mine w (kapOf κ bk) (Dm ms) g→w.heap.size≤g∨∃ b c,b∈zbZ bk∧D b∧κ b=some (g,c):=by
          rintro g (h | ⟨k,c,hk1,hk2,hk3⟩)
          · exact .inl h
          · obtain ⟨ent,hent⟩:=zb0.1 hk2; obtain ⟨b,hb,_⟩:=hms k ent hent; rw [zhh p5 _ hb] at hk3; exact .inr ⟨b,c,ziY.2 ⟨k,hb,hk1⟩,(p3 _ hb).1,hk3⟩
         have hbackD:∀ p∈back,D p.1:=fun p hp=>by obtain ⟨k,hk,_⟩:=b2 p hp; exact (p3 _ hk).1
         have hbackfz:∀ b∈fz,b ∉ ids back:=by intro b hb hm; rw [b1] at hm; obtain ⟨p,hp,rfl⟩:=zbC.1 hm; exact hdisj p (zd9.1 hp).1 p.1 hb rfl
         obtain ⟨S2,hS2a,hS2b,hS2c,hS2d,hS2e,hS2f⟩:∃ S2:Nat→Prop,(∀ g,S g→S2 g)∧(∀ g,S2 g→S1 g)∧(∀ g,S2 g→S g∨w.heap.size≤g∨∃ b c,(b∈(frzOf rv bk fz)∨b∈zbZ bk)∧D b∧κ b=some (g,c))∧(bk≠[]→S2=S1)∧(rv.flat 4=false→S2=S1)∧(∀ b∈frzOf rv bk fz,∀ g c,κ b=some (g,c)→S2 g):=by
          by_cases hfl:(rv.flat 4 && bk.isEmpty)=true
          · simp only [frzOf,hfl,if_true]; simp only [zbK,List.isEmpty_iff] at hfl; exact ⟨S,fun _ h=>h,fun g h=>hsup g (.inl h),fun g h=>.inl h,fun h=>absurd hfl.2 h,(fun h=>by rw [hfl.1] at h; cases h),by simp⟩
          · simp only [frzOf,hfl,if_false,zcn]; refine ⟨S1,fun g h=>hsup g (.inl h),fun _ h=>h,fun g h=>?_,fun _=>rfl,fun _=>rfl,fun b hb g c hk=>hsup g (.inr ⟨b,c,hb,hk⟩)⟩; rcases hsnew g h with h | h
            · rcases h with h | ⟨b,c,hb,hk⟩
              · exact .inl h
              · exact .inr (.inr ⟨b,c,.inl hb,p2 b hb,hk⟩)
            · rcases hMine g h with h | ⟨b,c,q1,q2,q3⟩
              · exact .inr (.inl h)
              · exact .inr (.inr ⟨b,c,.inr q1,q2,q3⟩)
         have hcell:∀ g,S g→w'.heap[g]?=w.heap[g]?:=fun g hg=>hblk g (hS g hg) (fun k c hk hkk=>by
          obtain ⟨ent,hent⟩:=zb0.1 hk; obtain ⟨b,hb,hlb,_⟩:=hms k ent hent; rw [zhh p5 _ hb] at hkk; have:=hL b ent hlb; rw [hkk] at this
          exact this.notS hg)
         have fin:∀ (newset:List (Nat×Ent)) (κ':Kap) (val:AV),(∀ b,D b→κ' b=κ b)→(∀ b,b ∉ ids newset→κ' b=κ b)→(∀ p∈newset,¬ D p.1∧(∀ g c,κ' p.1=some (g,c)→w.heap.size≤g∨∃ b0 c0,b0∈zbZ bk∧D b0∧κ b0=some (g,c0))∧EntC S2 w' (κ' p.1) p.2)→(∀ p∈newset,∀ p'∈newset,p.1=p'.1)→(∀ D':Nat→Prop,(∀ p∈newset,D' p.1)→(∀ b∈ids back,D' b)→VRel S2 κ' D' w' val x)→EffAt S κ D w S2 κ' { val:=val,set:=newset++back,frz:=frzOf rv bk fz,kill:=(zbZ bk).head? } x w':=by
          intro newset κ' val hk1 hk2 hnew hone hval
          exact {
           os:=hos
           tape:=htape
           output:=hout
           size:=hsz
           blk:=fun g hg hbb=>hblk g hg (fun k c hk hkk=>by
            obtain ⟨ent,hent⟩:=zb0.1 hk; obtain ⟨b,hb,hlb,_⟩:=hms k ent hent; rw [zhh p5 _ hb] at hkk; by_cases hk1:k < 1000
            · exact hbb b c (.inr ((hgk b).1 (ziY.2 ⟨k,hb,hk1⟩))) (p3 _ hb).1 hkk
            refine hbb b c (.inl ?_) (p3 _ hb).1 hkk; have:b∈ids back:=by rw [b1]; exact zbC.2 ⟨_,zd9.2 ⟨hb,by simp; omega⟩,rfl⟩
            simp [ids] at this ⊢
            exact .inr this)
           sup:=hS2a
           snew:=fun g hg=>(hS2c g hg).imp id (fun q=>q.imp id (fun ⟨b,c,h1,h2⟩=>⟨b,c,h1.imp id (fun q=>.inl ((hgk b).1 q)),h2⟩))
           slt:=fun g h=>hslt g (hS2b g h)
           sfrz:=hS2f
           kold:=fun b hb _=>hk1 b hb
           kout:=fun b hb=>hk2 b (fun hm=>hb (by simp [ids] at hm ⊢; exact .inl hm))
           res:=fun b hb=>by cases hb
           knew:=fun b hnd' hb g c hk=>by
            have hnd:¬ D b:=fun hd=>by have:=hnd' hd; cases this
            simp [ids] at hb; rcases hb with ⟨en,hb⟩ | ⟨en,hb⟩
            · rcases (hnew _ hb).2.1 g c hk with q | ⟨b0,c0,q1,q2⟩
              · exact .inl q
              · exact .inr ⟨b0,c0,.inl ((hgk b0).1 q1),q2⟩
            · exact absurd (hbackD _ hb) hnd
           one:=fun b b' h1' h2' hb hb' _ _ _ _ _=>by
            have h1:¬ D b:=fun hd=>by have:=h1' hd; cases this
            have h2:¬ D b':=fun hd=>by have:=h2' hd; cases this
            simp [ids] at hb hb'; rcases hb with ⟨en,hb⟩ | ⟨en,hb⟩
            · rcases hb' with ⟨en',hb'⟩ | ⟨en',hb'⟩
              · exact hone _ hb _ hb'
              · exact absurd (hbackD _ hb') h2
            · exact absurd (hbackD _ hb) h1
           ents:=fun b ent hb=>by
            rcases zbF.1 hb with hb | hb
            · refine (hnew _ hb).2.2.mono (fun _ h=>h) (fun _ _=>rfl) (fun _ h=>h.elim) (fun _ h=>h.elim) (fun g c hk=>⟨rfl,?_⟩); have:=(hnew _ hb).2.2; simp only at this hk; rw [hk] at this; exact this.notS
            · obtain ⟨k,hk,hlk,hk1000,hsh⟩:=b2 _ hb; obtain ⟨_,hE0⟩:=hents k ent hlk; have hE:EntC S1 w' (κ1 k) ent:=hE0.handed (fun _ h=>h) (fun g c hk=>by rw [hk] at hE0; exact hE0.notS) (shut_spec hsh); rw [hpar k hk1000,zhh p5 _ hk] at hE; rw [hk1 b (p3 _ hk).1]; have hne:bk≠[]:=fun e=>by rw [e] at hk; cases hk
              rw [hS2d hne]; simp only at hE; refine hE.mono (fun _ h=>h) (fun _ _=>rfl) (fun _ h=>h.elim) (fun _ h=>h.elim) (fun g c hkk=>⟨rfl,?_⟩); rw [hkk] at hE; exact hE.notS
           val:=hval _ (fun p hp=>.inr (by simp [ids]; exact .inl ⟨p.2,hp⟩)) (fun b hb=>.inr (by simp [ids] at hb ⊢; exact .inr hb)) }
         have dis:∀ (newset:List (Nat×Ent)) (val:AV),(∀ p∈newset,¬ D p.1)→∀ b∈({ val:=val,set:=newset++back,frz:=frzOf rv bk fz }:Res).frz,D b∧b ∉ ids (newset++back)∧(zbZ bk).head?≠some b:=by
          intro newset val hn b hb; obtain ⟨h1,h2⟩:=hfr b hb; refine ⟨h1,fun hm=>?_,fun hm=>?_⟩
          rotate_left
          · obtain ⟨k,hk,_⟩:=ziY.1 ((hgk b).2 hm); exact hdisj _ hk b h2 rfl
          simp [ids] at hm; rcases hm with ⟨en,hm⟩ | ⟨en,hm⟩
          · exact hn _ hm h1
          · exact hbackfz b h2 (by simp [ids]; exact ⟨en,hm⟩)
         unfold zoH at h
         have plain:CRel S1 w' rv x→res={ val:=rv,set:=back,frz:=frzOf rv bk fz }→∃ x_1 S' κ',(Ending.returned x=Ending.returned x_1)∧EffAt S κ D w S' κ' { res with kill:=(zbZ bk).head? } x_1 w'∧∀ b∈res.frz,D b∧b ∉ ids res.set∧(zbZ bk).head?≠some b:=by
          intro hrel e; subst e
          have hrel2:CRel S2 w' rv x:=by
           by_cases hfl:rv.flat 4=true
           · exact zol 4 hfl hrel
           · rw [hS2e (by simpa using hfl)]; exact hrel
          have:=fin [] κ rv (fun _ _=>rfl) (fun _ _=>rfl) (by simp) (by simp) (fun D' _ _=>.c hrel2); exact ⟨x,S2,κ,rfl,this,dis [] rv (by simp)⟩
         cases rv with
         | new z e es =>
           cases d with
           | none=>simp at h
           | some d =>
             simp only [zat] at h; subst h; have hnd:=hdd d rfl; have hfl:(AV.new z e es).flat 4=false:=rfl; have hS2:=hS2e hfl; subst hS2; obtain ⟨hzp,hres⟩:=hres; rcases hres with ⟨rfl,rfl⟩ | ⟨g,c,hg,rfl,hE⟩
             · refine ⟨_,_,fun b=>if b=d then none else κ b,rfl,fin [(d,{ z,e,es:=[],box:=false })] _ (.row d z 0 0) (fun b hb=>if_neg (fun e=>hnd (by subst e; exact hb))) (fun b hb=>if_neg (fun e=>hb (by simp [ids,e]))) ?_ (by simp) ?_,dis [(d,_)] (.row d z 0 0) (by simpa using hnd)⟩
               · intro p hp; simp at hp; subst hp; exact ⟨hnd,by simp,EntAt.of (.inr hzp) (by simp [CellAt])⟩
               · intro D' hD' _; exact .row0 d z (hD' (d,{ z,e,es:=[],box:=false }) (by simp)) (by simp)
             · refine ⟨_,_,fun b=>if b=d then some (g,c) else κ b,rfl,fin [(d,{ z,e,es,box:=false })] _ (.row d z 0 es.length) (fun b hb=>if_neg (fun e=>hnd (by subst e; exact hb))) (fun b hb=>if_neg (fun e=>hb (by simp [ids,e]))) ?_ (by simp) ?_,dis [(d,_)] (.row d z 0 es.length) (by simpa using hnd)⟩
               · intro p hp; simp at hp; subst hp; refine ⟨hnd,fun g' c' hk=>?_,by simpa using hE⟩; simp at hk; obtain ⟨rfl,rfl⟩:=hk; exact hMine _ hg
               · intro D' hD' _; have hle:=(hE.1 (.inr hzp)).2.choose_spec.2.2.1; exact .row d z 0 es.length g c 0 c (hD' (d,{ z,e,es,box:=false }) (by simp)) (by simp) hle (.inl (by simp)) (fun _=>rfl)
         | newp z e cs =>
           cases d with
           | none=>simp at h
           | some d =>
             simp only [zat] at h; subst h; have hnd:=hdd d rfl; have hfl:(AV.newp z e cs).flat 4=false:=rfl; have hS2:=hS2e hfl; subst hS2; obtain ⟨g,c,hg,rfl,hE⟩:=hres; refine ⟨_,_,fun b=>if b=d then some (g,c) else κ b,rfl,fin [(d,{ z,e,es:=[cs],box:=true })] _ (.loc d z 0 0) (fun b hb=>if_neg (fun e=>hnd (by subst e; exact hb))) (fun b hb=>if_neg (fun e=>hb (by simp [ids,e]))) ?_ (by simp) ?_,dis [(d,_)] (.loc d z 0 0) (by simpa using hnd)⟩
             · intro p hp; simp at hp; subst hp; refine ⟨hnd,fun g' c' hk=>?_,by simpa using hE⟩; simp at hk; obtain ⟨rfl,rfl⟩:=hk; exact hMine _ hg
             · intro D' hD' _; have:=VRel.loc (S:=S2) (κ:=fun b=>if b=d then some (g,c) else κ b) (D:=D') (w:=w') d z 0 0 g c (hD' (d,{ z,e,es:=[cs],box:=true }) (by simp)) (by simp); simpa using this
         | newm e es =>
           cases d with
           | none=>simp at h
           | some d =>
             simp only [zat] at h; subst h; have hnd:=hdd d rfl; have hfl:(AV.newm e es).flat 4=false:=rfl; have hS2:=hS2e hfl; subst hS2; obtain ⟨g,c,hg,rfl,hE⟩:=hres; refine ⟨_,_,fun b=>if b=d then some (g,c) else κ b,rfl,fin [(d,{ z:=0,e,es,box:=false })] _ (.map d) (fun b hb=>if_neg (fun e=>hnd (by subst e; exact hb))) (fun b hb=>if_neg (fun e=>hb (by simp [ids,e]))) ?_ (by simp) ?_,dis [(d,_)] (.map d) (by simpa using hnd)⟩
             · intro p hp; simp at hp; subst hp; refine ⟨hnd,fun g' c' hk=>?_,by simpa using hE⟩; simp at hk; obtain ⟨rfl,rfl⟩:=hk; exact hMine _ hg
             · intro D' hD' _; exact .map d g c (hD' (d,{ z:=0,e,es,box:=false }) (by simp)) (by simp)
         | map b=>simp at h
         | row b z off n =>
           simp only at h
           cases hf:(ze9 bk).find? (fun p=>p.2 == b) with
           | none=>rw [hf] at h; cases h
           | some p =>
             rw [hf] at h; simp only [zat] at h; subst h; have hpm':p∈ze9 bk:=zoA hf; have hpm:p∈bk:=(zd9.1 hpm').1; have hpb:p.2=b:=by simpa using zoB hf
             have hke:kapOf κ bk b=κ p.1:=by rw [← hpb]; exact (hbk p hpm).2
             have hinb:p.1∈ids back:=by rw [b1]; exact zbC.2 ⟨_,hpm',rfl⟩
             have hS2:=hS2e rfl; subst hS2; refine ⟨x,S2,κ,rfl,fin [] κ (.row p.1 z off n) (fun _ _=>rfl) (fun _ _=>rfl) (by simp) (by simp) ?_,dis [] (.row p.1 z off n) (by simp)⟩; intro D' _ hB; have hD':=hB p.1 hinb
             cases hres with
             | c h=>cases h
             | row0 _ _ hd hk=>exact .row0 p.1 z hD' (by rw [← hke]; exact hk)
             | row _ _ _ _ g c off' cap hd hk hn ho hc=>exact .row p.1 z off n g c off' cap hD' (by rw [← hke]; exact hk) hn ho hc
         | loc b z i o =>
           simp only at h
           cases hf:(ze9 bk).find? (fun p=>p.2 == b) with
           | none=>rw [hf] at h; cases h
           | some p =>
             rw [hf] at h; simp only [zat] at h; subst h; have hpm':p∈ze9 bk:=zoA hf; have hpm:p∈bk:=(zd9.1 hpm').1; have hpb:p.2=b:=by simpa using zoB hf
             have hke:kapOf κ bk b=κ p.1:=by rw [← hpb]; exact (hbk p hpm).2
             have hinb:p.1∈ids back:=by rw [b1]; exact zbC.2 ⟨_,hpm',rfl⟩
             have hS2:=hS2e rfl; subst hS2; refine ⟨x,S2,κ,rfl,fin [] κ (.loc p.1 z i o) (fun _ _=>rfl) (fun _ _=>rfl) (by simp) (by simp) ?_,dis [] (.loc p.1 z i o) (by simp)⟩; intro D' _ hB; have hD':=hB p.1 hinb
             cases hres with
             | c h=>cases h
             | loc _ _ _ _ g c hd hk=>exact .loc p.1 z i o g c hD' (by rw [← hke]; exact hk)
         | _=>simp only [zat] at h; exact plain hres h.symm
end
section
variable {P:Program} {S:Nat→Prop} {κ:Kap} {D:Nat→Prop} {w:World} {L:Nat→Option Ent}
theorem ziU {o:Oper} {E:Operand→AV} {r:Res} {ρ:Operand→Value} (hs:∀ cs b,o.op≠.select cs b) (hE:∀ x∈o.op.operands,VRel S κ D w (E x) (ρ x)) (h:aPure P o E=some r):∃ y,(execOp ρ o).run P w=.ok (.value y) w∧VRel S κ D w r.val y∧r.set=[]∧r.kill=none∧r.frz=[]∧r.re=[]:=by
 unfold aPure at h; split at h
 case isFalse=>cases h
 rename_i hall
 have hcongr:execOp ρ o=execOp (fun x=>((E x).toVal).getD undef) o:=execOp_congr o hs (fun x hx=>by
  have h1:=zbQ.1 hall x (by simpa using hx); obtain ⟨y,hy⟩:=zb0.1 h1; simp only [hy,ziP]
  exact zvq hy (hE x hx))
 split at h
 case h_2=>cases h
 rename_i x hx; split at h
 case h_2=>cases h
 rename_i av hav; injection h with h; subst h; refine ⟨x,?_,.c (zAD hav),rfl,rfl,rfl,rfl⟩; rw [hcongr]; exact znZ P _ _ hx w
def IsOf (P:Program) (t:TypeId) (xs:List Value) (x:Value):Prop:=(isAggB P t=some true∧x=.agg xs.toArray)∨(isAggB P t=some false∧xs=[x])
def aggD:TypeDesc→Bool
 | .struct _=>true
 | .array _ _=>true
 | _=>false
theorem zfZ {t:TypeId} {td:TypeDesc} (h:P.underlying t=some td):isAggB P t=some (aggD td):=by unfold isAggB; rw [h]; cases td <;> rfl
theorem eqV_agg {k:Nat} {t:TypeId} {xs ys:List Value} {r:Bool} (h:eqV P k t xs ys=some r):isAggB P t=some true∨(isAggB P t=some false∧(∃ x,xs=[x])∧∃ y,ys=[y]):=by
 cases k with
 | zero=>simp [eqV] at h
 | succ k =>
   unfold eqV at h; split at h
   · rename_i hu; split at h
     · exact .inr ⟨zfZ hu,⟨_,rfl⟩,_,rfl⟩
     · cases h
   · rename_i hu; split at h
     · exact .inr ⟨zfZ hu,⟨_,rfl⟩,_,rfl⟩
     · cases h
   · rename_i hu; split at h
     · exact .inr ⟨zfZ hu,⟨_,rfl⟩,_,rfl⟩
     · cases h
   · rename_i hu; exact .inl (zfZ hu)
   · rename_i hu; exact .inl (zfZ hu)
   · cases h
theorem part_of {t:TypeId} {arr:Array Value} {off n:Nat} (w:World) (hn:szB P t=some n) (h:isAggB P t=some true∨(isAggB P t=some false∧∃ x,(arr.toList.drop off).take n=[x])):∃ y,(part t arr off).run P w=.ok y w∧IsOf P t ((arr.toList.drop off).take n) y:=by
 rcases h with h | ⟨h,x,hx⟩
 · refine ⟨.agg (arr.extract off (off+n)),?_,.inl ⟨h,?_⟩⟩
   · simp only [part,Sem.run_bind,zjV h,Result.andThen_ok,if_true,zcb hn,Sem.run_pure]
   · congr 1; apply Array.toList_inj.1; rw [Array.toList_extract]; simp [List.extract]
 · have hget:arr[off]?=some x:=by
    have h0:((arr.toList.drop off).take n)[0]?=some x:=by rw [hx]; rfl
    rw [zc0] at h0; split at h0
    · rw [zc9] at h0; simpa using h0
    · cases h0
   refine ⟨x,?_,.inr ⟨h,hx⟩⟩; simp only [part,Sem.run_bind,zjV h,Result.andThen_ok,zcn,if_false,hget,Sem.run_pure]
theorem zoj {a b:Option Bool} {r:Bool} (h:eqAnd a b=some r):∃ x y,a=some x∧b=some y∧r=(x && y):=by cases a <;> cases b <;> simp [eqAnd] at h; exact ⟨_,_,rfl,rfl,h.symm⟩
theorem ztK:∀ (k:Nat) (t:TypeId) (xs ys:List Value) (r:Bool),eqV P k t xs ys=some r→∀ (d:Nat) (x y:Value) (w:World),IsOf P t xs x→IsOf P t ys y→(Op.equalIn (d+k) t x y).run P w=.ok r w:=by
 intro k
 induction k with
 | zero=>intro t xs ys r h; simp [eqV] at h
 | succ k ih =>
   intro t xs ys r h d x y w hx hy
   have step:∀ (u:TypeId) (xs ys:List Value) (n off:Nat) (r1:Bool) (w:World),szB P u=some n→eqV P k u ((xs.drop off).take n) ((ys.drop off).take n)=some r1→∃ a b,(part u xs.toArray off).run P w=.ok a w∧(part u ys.toArray off).run P w=.ok b w∧(Op.equalIn (d+k) u a b).run P w=.ok r1 w:=by intro u xs ys n off r1 w hn he; have hs:=eqV_agg he; obtain ⟨a,ha,ia⟩:=part_of (arr:=xs.toArray) (off:=off) w hn (hs.imp id (fun q=>⟨q.1,q.2.1⟩)); obtain ⟨b,hb,ib⟩:=part_of (arr:=ys.toArray) (off:=off) w hn (hs.imp id (fun q=>⟨q.1,q.2.2⟩)); exact ⟨a,b,ha,hb,ih u _ _ r1 he d a b w ia ib⟩
   have one:∀ {td:TypeDesc} {a b:Value},P.underlying t=some td→aggD td=false→xs=[a]→ys=[b]→x=a∧y=b:=by
    intro td a b hu hf h1 h2; have hagg:=zfZ hu; rw [hf] at hagg; rcases hx with ⟨q,_⟩ | ⟨_,q⟩
    · rw [hagg] at q; cases q
    · rcases hy with ⟨q',_⟩ | ⟨_,q'⟩
      · rw [hagg] at q'; cases q'
      · rw [h1] at q; rw [h2] at q'; injection q with q; injection q' with q'; exact ⟨q.symm,q'.symm⟩
   have two:∀ {td:TypeDesc},P.underlying t=some td→aggD td=true→x=.agg xs.toArray∧y=.agg ys.toArray:=by
    intro td hu hf; have hagg:=zfZ hu; rw [hf] at hagg; rcases hx with ⟨_,q⟩ | ⟨q,_⟩
    · rcases hy with ⟨_,q'⟩ | ⟨q',_⟩
      · exact ⟨q,q'⟩
      · rw [hagg] at q'; cases q'
    · rw [hagg] at q; cases q
   unfold eqV at h; split at h
   · rename_i hu; split at h
     · injection h with h; obtain ⟨rfl,rfl⟩:=one hu rfl rfl rfl; rw [← h]; exact run_equalIn_bool' w (d+k) t _ _ hu
     · cases h
   · rename_i q hu; split at h
     · split at h
       · rename_i hq; subst hq; injection h with h; obtain ⟨rfl,rfl⟩:=one hu rfl rfl rfl; rw [← h]; exact run_equalIn_int w (d+k) t _ _ _ _ hu
       · cases h
     · cases h
   · rename_i hu; split at h
     · injection h with h; obtain ⟨rfl,rfl⟩:=one hu rfl rfl rfl; rw [← h,beq_toListBytes]; exact run_equalIn_string w (d+k) t _ _ hu
     · cases h
   · rename_i fs hu; split at h
     · cases h
     rename_i hst; obtain ⟨rfl,rfl⟩:=two hu rfl; have hfs:P.fieldsOf t=fs:=by simp [Program.fieldsOf,hu]
     rw [show d+(k+1)=(d+k)+1 from rfl,run_equalIn_struct w (d+k) t _ _ (by rw [hfs]; exact hu) (by simpa using hst),hfs]; generalize fs.toList=l at h; clear hu hfs
     induction l generalizing r w with
     | nil=>simp only [eqFs] at h; injection h with h; subst h; simp [Op.eqFields]
     | cons f l ihl =>
       simp only [eqFs] at h; simp only [Op.eqFields]; split at h
       · rename_i hn; rw [if_pos hn]; split at h
         · rename_i n hsz; obtain ⟨r1,r2,e1,e2,rfl⟩:=zoj h; obtain ⟨a,b,p1,p2,p3⟩:=step f.type xs ys n f.offset r1 w hsz e1; simp only [Sem.run_bind,p1,p2,p3,Result.andThen_ok]
           cases r1 with
           | false=>simp
           | true=>simpa using ihl r2 w e2
         · cases h
       · rename_i hn; rw [if_neg hn]; exact ihl r w h
   · rename_i n e hu; split at h
     case h_2=>cases h
     rename_i c hc; obtain ⟨rfl,rfl⟩:=two hu rfl
     obtain ⟨i,hi⟩:∃ i,P.info? e=some i:=by
      cases hq:P.info? e with
      | none=>simp [szB,hq] at hc
      | some i=>exact ⟨i,rfl⟩
     have hcell:P.cellsOf e=c:=by simp only [szB] at hc; simp only [Program.cellsOf]; rw [hc]; rfl
     rw [show d+(k+1)=(d+k)+1 from rfl,run_equalIn_array w (d+k) _ _ hu hi,hcell]; generalize List.range n=l at h; clear hu
     induction l generalizing r w with
     | nil=>simp only [eqIs] at h; injection h with h; subst h; simp [Op.eqItems]
     | cons j l ihl =>
       simp only [eqIs] at h; simp only [Op.eqItems]; obtain ⟨r1,r2,e1,e2,rfl⟩:=zoj h; obtain ⟨a,b,p1,p2,p3⟩:=step e xs ys c (j*c) r1 w hc e1; simp only [Sem.run_bind,p1,p2,p3,Result.andThen_ok]
       cases r1 with
       | false=>simp
       | true=>simpa using ihl r2 w e2
   · cases h
theorem zi1 {cs:List AV} {l:List Value} {v:Value} (h:mapO AV.scal cs=some l) (hr:VRel S κ D w (.agg cs) v):v=.agg l.toArray:=by
 have:(AV.agg cs).toVal=some (.agg l.toArray):=by simp [AV.toVal,h]
 exact zvq this hr
theorem aEq_sound {o:Oper} {op:BinOp} {t u:TypeId} {x y:Operand} {cs ds:List AV} {r:Res} {ρ:Operand→Value} (ho:o.op=.binOp op t x y u) (h:aEq P op t cs ds=some r)
  (hx:VRel S κ D w (.agg cs) (ρ x)) (hy:VRel S κ D w (.agg ds) (ρ y)):∃ b,(execOp ρ o).run P w=.ok (.value (.bool b)) w∧r={ val:=.v (.bool b) }:=by
 unfold aEq at h; split at h
 case h_2=>cases h
 rename_i xs ys h1 h2; split at h
 · cases h
 rename_i hg; have ex:=zi1 h1 hx; have ey:=zi1 h2 hy; have hg':P.eqGuardType P.depth t=false:=by simpa using hg
 split at h
 · rename_i b ha he; injection h with h; refine ⟨b,?_,h.symm⟩; have:=ztK (P:=P) 20 t xs ys b he 9980 _ _ w (.inl ⟨ha,rfl⟩) (.inl ⟨ha,rfl⟩); simp only [execOp,ho,ex,ey,Sem.run_bind,run_eqGuard_agg w .eql t x y _ _ hg',Result.andThen_ok,run_eql_struct]; rw [show (10000:Nat)=9980+20 from rfl,this]; simp
 · rename_i b ha he; injection h with h; refine ⟨!b,?_,h.symm⟩; have:=ztK (P:=P) 20 t xs ys b he 9980 _ _ w (.inl ⟨ha,rfl⟩) (.inl ⟨ha,rfl⟩); simp only [execOp,ho,ex,ey,Sem.run_bind,run_eqGuard_agg w .neq t x y _ _ hg',Result.andThen_ok,run_neq_struct]; rw [show (10000:Nat)=9980+20 from rfl,this]; simp
 · cases h
theorem zAs {t e:TypeId} {p:Addr} (hu:P.underlying t=some (.pointer e)) (d:Nat):(Op.equalIn (d+1) t (.pointer (some p)) (.pointer none)).run P w=.ok false w:=by simp only [Op.equalIn,Sem.run_bind,run_underlying hu,Result.andThen_ok,Sem.run_pure]
theorem nil_run {o:Oper} {op:BinOp} {t u e:TypeId} {x y:Operand} {p:Addr} {r:Res} {ρ:Operand→Value} (ho:o.op=.binOp op t x y u) (hu:P.underlying t=some (.pointer e)) (e1:ρ x=.pointer (some p)) (e2:ρ y=.pointer none)
  (h:nilOp op=some r):∃ q,(execOp ρ o).run P w=.ok (.value (.bool q)) w∧r={ val:=.v (.bool q) }:=by
 have heq:(Op.equal t (.pointer (some p)) (.pointer none)).run P w=.ok false w:=zAs (P:=P) (w:=w) (p:=p) hu 9999; cases op <;> simp only [nilOp,zat,reduceCtorEq] at h
 · refine ⟨false,?_,h.symm⟩; simp [execOp,ho,e1,e2,eqGuard,binOp,heq]
 · refine ⟨true,?_,h.symm⟩; simp [execOp,ho,e1,e2,eqGuard,binOp,heq]
theorem zzR {o:Oper} {op:BinOp} {t u:TypeId} {x y:Operand} {a b:AV} {r:Res} {ρ:Operand→Value} (ho:o.op=.binOp op t x y u) (h:nilCmp P op t a b=some r)
  (hx:VRel S κ D w a (ρ x)) (hy:VRel S κ D w b (ρ y)):∃ q,(execOp ρ o).run P w=.ok (.value (.bool q)) w∧r={ val:=.v (.bool q) }:=by
 unfold nilCmp at h; split at h
 · rename_i e cs hu; have e2:=hy.v_inv; generalize hv:ρ x=v at hx
   cases hx.fp_inv with
   | fp _ p _ _ _ _=>exact nil_run ho hu hv e2 h
 · rename_i e z es hu; have e2:=hy.v_inv; generalize hv:ρ x=v at hx
   cases hx.fa_inv with
   | fa _ _ p _ _ _ _ _=>exact nil_run ho hu hv e2 h
 · rename_i e b0 z i o0 hu; have e2:=hy.v_inv; obtain ⟨g,c,_,_,e1⟩:=hx.loc_inv; exact nil_run ho hu e1 e2 h
 · cases h
theorem zxu {t:TypeId} {cs:List AV} {arr:Array Value} {off:Nat} {av:AV} (hl:arr.size=cs.length) (h1:∀ x∈arr,x.oneCell'=true)
  (hr:∀ (j:Nat) (c:AV) (x:Value),cs[j]?=some c→arr[j]?=some x→VRel S κ D w c x) (h:readAt P t (cs.drop off)=some av):∃ y,(part t arr off).run P w=.ok y w∧VRel S κ D w av y:=by
 unfold readAt at h
 cases hb:isAggB P t with
 | none=>simp [hb] at h
 | some b =>
   cases b with
   | false =>
     simp only [hb] at h; rw [zc9,zkg] at h; have hlt:off < arr.size:=by have:=(zbs.1 h).1; omega
     exact ⟨arr[off],by simp [part,zjV hb,hlt],hr off av _ h (zcy hlt)⟩
   | true =>
     simp only [hb] at h
     cases hs:szB P t with
     | none=>simp [hs] at h
     | some n =>
       simp only [hs] at h; split at h
       case isFalse=>cases h
       rename_i hle; injection h with h; subst h; simp at hle; refine ⟨.agg (arr.extract off (off+n)),by simp [part,zjV hb,zcb hs],.agg _ _ ?_ ?_ ?_⟩
       · simp; omega
       · intro x hx; obtain ⟨j,hj⟩:=zoy.1 hx; rw [Array.getElem?_extract] at hj; split at hj
         · exact h1 x (zmM hj)
         · cases hj
       · intro j c x hj hx; rw [Array.getElem?_extract] at hx; rw [zc0] at hj; split at hj
         case isFalse=>cases hj
         rw [zc9] at hj; split at hx
         · exact hr _ c x hj hx
         · cases hx
def Dis (D:Nat→Prop) (r:Res):Prop:=∀ b∈r.frz,D b∧b ∉ ids r.set∧r.kill≠some b
end
end Go.Ab
end
