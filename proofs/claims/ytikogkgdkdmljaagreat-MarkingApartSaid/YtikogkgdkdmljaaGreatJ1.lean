/- The reference of the log of marks: sorting, what is disputed, the canonical list. -/
import Derived.Test.YtikogkgdkdmljaaGreatJ0
import Derived.Test.YtikogkgdkdmljaaGreatXAnn
import Derived.Test.YtikogkgdkdmljaaGreatAb10
import Derived.Control
set_option linter.unusedSimpArgs false
set_option linter.unusedVariables false
noncomputable section
namespace Go.Proofs.YtikogkgdkdmljaaGreat
open Go.Ab
def leE (a b:zab):Bool:=!lessS b.Stamp a.Stamp
theorem merge_loop (a b:List zab) (ha:a.length≤100000) (hb:b.length≤100000):∀ (n i j:Nat) (out:List zab),(a.length - i)+(b.length - j)=n→i≤a.length→j≤b.length→out.length≤i+j→zhR a b (List.map zaa out) i j=some (zgp (out++List.merge (a.drop i) (b.drop j) leE)):=by
 intro n
 induction n with
 | zero=>intro i j out hn hi hj ho; refine zr0 _ _ _ _ _ ?_; simp (disch:=omega) only [zam,zaO,zbf]; rw [zkz (show a.length≤i by omega),zkz (show b.length≤j by omega)]; simp only [List.merge,zjW]; rfl
 | succ n ih =>
   intro i j out hn hi hj ho
   have ta:∀ hlt:i < a.length,List.merge (a.drop i) (b.drop j) leE=a[i] :: List.merge (a.drop (i+1)) (b.drop j) leE→zhG a b (List.map zaa out) i j=some (zgp (out++List.merge (a.drop i) (b.drop j) leE)):=by intro hlt hm; refine zvv _ _ _ _ _ ?_; have h2:=ih (i+1) j (out++[a[i]]) (by omega) (by omega) hj (by simp; omega); rw [zge,List.singleton_append,← hm] at h2; simp (disch:=omega) only [zam,zan,za2,zbO,zbJ,zaB hlt,zaX,zbf,zcm zaa,w64_id]; exact h2
   have tb:∀ hlt:j < b.length,List.merge (a.drop i) (b.drop j) leE=b[j] :: List.merge (a.drop i) (b.drop (j+1)) leE→zhH a b (List.map zaa out) i j=some (zgp (out++List.merge (a.drop i) (b.drop j) leE)):=by intro hlt hm; refine zvw _ _ _ _ _ ?_; have h2:=ih i (j+1) (out++[b[j]]) (by omega) hi (by omega) (by simp; omega); rw [zge,List.singleton_append,← hm] at h2; simp (disch:=omega) only [zam,zan,za2,zbO,zbJ,zaB hlt,zaX,zbf,zcm zaa,w64_id]; exact h2
   have mid:zhF a b (List.map zaa out) i j=some (zgp (out++List.merge (a.drop i) (b.drop j) leE)):=by
    refine zvu _ _ _ _ _ ?_; by_cases hjb:j=b.length
    · simp only [zam,show ((j:Int) == (b.length:Int))=true by simp [hjb],zaF]; refine ta (by omega) ?_; rw [zkz (show b.length≤j by omega),zc3 (show i < a.length by omega)]; simp [List.merge]
    · have hjl:j < b.length:=by omega
      have hne:((j:Int) == (b.length:Int))=false:=by simp only [beq_eq_false_iff_ne,ne_eq]; omega
      by_cases hia:i < a.length
      · have hm:=zc3 hia; have hm2:=zc3 hjl; simp (disch:=omega) only [zam,hne,zat,zaD,zan,za2,zbO,zbJ,zaB hia,zaB hjl,zaX,zym,zao]
        cases hls:lessS b[j].Stamp a[i].Stamp with
        | false=>simp only [zcc,zaF]; refine ta hia ?_; rw [hm,hm2,List.merge,if_pos (by simp [leE,hls])]
        | true=>simp only [zbH,zat]; refine tb hjl ?_; rw [hm,hm2,List.merge,if_neg (by simp [leE,hls])]
      · simp (disch:=omega) only [zam,hne,zat,zaO]; refine tb hjl ?_; rw [zkz (show a.length≤i by omega),zc3 hjl]; simp [List.merge]
   refine zr0 _ _ _ _ _ ?_; by_cases hia:i < a.length
   · simp (disch:=omega) only [zam,zaD]; exact mid
   · simp (disch:=omega) only [zam,zaO,zaD]; exact mid
theorem znZ {a b c:zaM} (h1:lessS b a=false) (h2:lessS c b=false):lessS c a=false:=by
 unfold lessS at *
 repeat' split at h1
 all_goals repeat' split at h2
 all_goals repeat' split
 all_goals simp only [decide_eq_false_iff_not] at *
 all_goals omega
theorem zq5 (a b:zaM):lessS a b=false∨lessS b a=false:=by
 unfold lessS
 repeat' split
 all_goals simp only [decide_eq_false_iff_not]
 all_goals omega
theorem leE_trans (a b c:zab) (h1:leE a b=true) (h2:leE b c=true):leE a c=true:=by simp only [leE,zrq] at *; exact znZ h1 h2
theorem leE_total (a b:zab):(leE a b || leE b a)=true:=by simp only [leE,znt,zrq]; exact zq5 _ _
theorem zAk:∀ (n:Nat) (l:List zab),l.length≤n→l.length≤100000→∃ r,cw zka [.sl 9 (List.map zaa l)] []=some (zgp r)∧r.Perm l∧r.Pairwise (fun a b=>leE a b=true):=by
 intro n
 induction n with
 | zero=>intro l hl _; have:l=[]:=zro (by omega); subst this; refine ⟨[],zpV _ ?_,znj _,List.Pairwise.nil⟩; simp (disch:=omega) only [zam,zpy,zaD,zan,zbf]; rfl
 | succ n ih =>
   intro l hl h5; by_cases h2:l.length < 2
   · refine ⟨l,zpV _ ?_,znj _,?_⟩
     · simp (disch:=omega) only [zam,zaD,zan,zbf]; rfl
     · match l,h2 with
       | [],_=>exact List.Pairwise.nil
       | [x],_=>simp
       | _ :: _ :: _,h=>simp only [zfQ] at h; omega
   · have ht:(l.length:Int).tdiv 2=((l.length / 2:Nat):Int):=by rw [Int.tdiv_eq_ediv_of_nonneg (by omega)]; omega
     obtain ⟨a,ea,pa,sa⟩:=ih (l.take (l.length / 2)) (by simp; omega) (by simp; omega); obtain ⟨b,eb,pb,sb⟩:=ih (l.drop (l.length / 2)) (by simp; omega) (by simp; omega); have la:=pa.length_eq; have lb:=pb.length_eq; simp only [zi6,zph] at la lb; refine ⟨List.merge a b leE,zpV _ ?_,?_,List.pairwise_merge leE_trans leE_total a b sa sb⟩
     · rw [List.map_take] at ea; rw [List.map_drop] at eb; have hloop:=merge_loop a b (by omega) (by omega) _ 0 0 [] rfl (by omega) (by omega) (by simp); simp only [znr,zsc,zr8] at hloop; have e1:List.take (List.length l) (List.map zaa l)=List.map zaa l:=zcs (by simp); simp (disch:=omega) only [zam,zaO,ht,w64_id,zan,za2,ea,zpR,e1,eb]; exact hloop
     · refine (List.merge_perm_append leE).trans ?_; have:=pa.append pb
       rwa [List.take_append_drop] at this
abbrev dKey (e:zab):Int×Int:=(e.Stamp.Source,e.Stamp.Seq)
abbrev DMap:=List ((Int×Int)×Int)×List ((Int×Int)×Bool)
open Classical in
def dstep (l:List zab) (i:Nat) (e:zab) (fb:DMap):DMap:=
 if zpd e then
  match mfind (dKey e) fb.1 with
  | none=>(mput (dKey e) (i:Int) fb.1,fb.2)
  | some n=>if l[n.toNat]?=some e then fb else (fb.1,mput (dKey e) true fb.2)
 else fb
def dfold (l:List zab):List zab→Nat→DMap→DMap
 | [],_,fb=>fb
 | e :: r,i,fb=>dfold l r (i+1) (dstep l i e fb)
theorem zlV {κ ν:Type} [DecidableEq κ] {k:κ} {v:ν}:∀ {l:List (κ×ν)} {p:κ×ν},p∈mput k v l→p=(k,v)∨p∈l
 | [],p,h=>by simpa [mput] using h
 | q :: r,p,h=>by
   unfold mput at h; split at h
   · rcases za7.1 h with h | h
     · exact Or.inl h
     · exact Or.inr (zfk _ h)
   · rcases za7.1 h with h | h
     · exact Or.inr (by simp [h])
     · rcases zlV h with h | h
       · exact Or.inl h
       · exact Or.inr (zfk _ h)
theorem zh5 {κ ν:Type} [DecidableEq κ] {k:κ}:∀ {l:List (κ×ν)} {v:ν},mfind k l=some v→(k,v)∈l
 | [],v,h=>by simp [mfind] at h
 | q :: r,v,h=>by
   unfold mfind at h; split at h
   · injection h with h; subst h; rename_i hk; subst hk; simp
   · exact zfk _ (zh5 h)
theorem disp_loop (l:List zab) (hl:l.length≤100000) (hp:∀ e∈l,e.Pages.length≤1000000):∀ (n i:Nat) (fb:DMap),i+n=l.length→(∀ p∈fb.1,0≤p.2∧p.2 < i)→zdc l (List.map zdF fb.1) (List.map zdS fb.2) i=some (zgq (dfold l (l.drop i) i fb)):=by
 intro n
 induction n with
 | zero=>intro i fb hi hf; refine zov _ _ _ _ ?_; rw [zkz (by omega),dfold]; simp (disch:=omega) only [zam,zaO]; rfl
 | succ n ih =>
   intro i fb hi hf; have hlt:i < l.length:=by omega
   refine zov _ _ _ _ ?_; rw [zc3 hlt,dfold]; simp (disch:=omega) only [zam,zaD,zan,za2,zbJ,zaB hlt,zaX,zzw,zao]; have stay:zdc l (List.map zdF fb.1) (List.map zdS fb.2) ((i:Int)+1)=some (zgq (dfold l (l.drop (i+1)) (i+1) fb)):=ih (i+1) fb (by omega) (fun p hp=>by have:=hf p hp; omega); by_cases hv:zpd l[i]
   · simp (disch:=omega) only [zbw hv,zbH,zat,zqy,zx5,zwW]; unfold dstep; rw [if_pos hv]
     cases hm:mfind (dKey l[i]) fb.1 with
     | none =>
       simp (disch:=omega) only [hm,znk,zcc,zaF,w64_id]
       exact ih (i+1) (mput (dKey l[i]) (i:Int) fb.1,fb.2) (by omega) (by
        intro p hp; rcases zlV hp with rfl | hp
        · dsimp only; omega
        · have:=hf p hp; omega)
     | some m =>
       have hb:=hf _ (zh5 hm); have hml:m.toNat < l.length:=by have:=hb.2; simp only at this; omega
       have hm0:0≤m:=hb.1; simp (disch:=omega) only [hm,zie,zfi,zbH,zat,zan,zbJ,zaB hml,zaB hlt,zaX,za2,zAj _ _ (hp _ (zbi hml)),zao]; by_cases he:l[m.toNat]=l[i]
       · simp (disch:=omega) only [zbw he,zbH,zat,w64_id]; rw [if_pos (by first | rw [zaB hml,he] | rw [he])]; exact stay
       · simp (disch:=omega) only [zbq he,zcc,zaF,w64_id]; rw [if_neg (fun h=>he (by first | (rw [zaB hml] at h; injection h) | (injection h)))]; exact ih (i+1) (fb.1,mput (dKey l[i]) true fb.2) (by omega) (fun p hp=>by have:=hf p hp; omega)
   · simp (disch:=omega) only [zbq hv,zcc,zaF,w64_id]; unfold dstep; rw [if_neg hv]; exact stay
def dispF (l:List zab):DMap:=dfold l l 0 ([],[])
theorem c_disputes (l:List zab) (hl:l.length≤100000) (hp:∀ e∈l,e.Pages.length≤1000000):cw zlT [.sl 9 (List.map zaa l)] []=some (zgq (dispF l)):=
 zwJ l (disp_loop l hl hp l.length 0 ([],[]) (by omega) (by simp))
def ckeep (fb:DMap):List zab→Nat→List zab
 | [],_=>[]
 | e :: r,i=>if mfind (dKey e) fb.1=some (i:Int)∧(mfind (dKey e) fb.2).getD false=false then e :: ckeep fb r (i+1) else ckeep fb r (i+1)
theorem zyH {fb:DMap}:∀ {l:List zab} {i:Nat},(ckeep fb l i).length≤l.length
 | [],_=>by simp [ckeep]
 | x :: r,i=>by unfold ckeep; have:=zyH (fb:=fb) (l:=r) (i:=i+1); split <;> simp <;> omega
theorem zAZ (l:List zab) (hl:l.length≤2000) (hp:∀ e∈l,e.Pages.length≤1000000):∃ r,cw zhC [.sl 9 (List.map zaa l)] []=some (zcJ (r,0))∧r.Perm (ckeep (dispF l) l 0)∧r.Pairwise (fun a b=>leE a b=true):=by
 have hlen:=zyH (fb:=dispF l) (l:=l) (i:=0); obtain ⟨r,er,pr,sr⟩:=zAk _ (ckeep (dispF l) l 0) (zbL _) (by omega); have hrl:=pr.length_eq; refine ⟨r,zvr l ?_,pr,sr⟩; simp only [c_disputes l (by omega) hp,zsz]
 have loop:∀ (n i:Nat) (out:List zab),i+n=l.length→out.length≤i→out++ckeep (dispF l) (l.drop i) i=ckeep (dispF l) l 0→zcZ l (dispF l) (List.map zaa out) i=some (zcJ (r,0)):=by
  intro n
  induction n with
  | zero=>intro i out hi ho hk; rw [zkz (by omega),ckeep,zjW] at hk; subst hk; refine znc _ _ _ _ ?_; simp (disch:=omega) only [zam,zaO,zbO,zbL,zbf]; rw [zcs (by simp)]; simp (disch:=omega) only [er,zpR,zam,zbL,zbf]; rw [zcs (by simp)]; rfl
  | succ n ih =>
    intro i out hi ho hk; have hlt:i < l.length:=by omega
    have hpg:=hp _ (zbi hlt); rw [zc3 hlt,ckeep] at hk; refine znc _ _ _ _ ?_; simp (disch:=omega) only [zam,zaD,zan,za2,zbJ,zaB hlt,zaX,zqy,zwQ]
    have stay:¬ (mfind (dKey l[i]) (dispF l).1=some (i:Int)∧(mfind (dKey l[i]) (dispF l).2).getD false=false)→zcZ l (dispF l) (List.map zaa out) ((i:Int)+1)=some (zcJ (r,0)):=by intro hn; rw [if_neg hn] at hk; exact ih (i+1) out (by omega) (by omega) hk
    cases hm:mfind (dKey l[i]) (dispF l).1 with
    | none=>simp (disch:=omega) only [hm,znk,zat,w64_id]; exact stay (by rw [hm]; simp)
    | some m =>
      by_cases hmi:m=i
      · subst hmi; simp (disch:=omega) only [hm,zie,zfi,zaF,beq_self_eq_true]
        cases hb:(mfind (dKey l[i]) (dispF l).2).getD false with
        | true=>simp (disch:=omega) only [hb,zbH,zat,w64_id]; exact stay (by rw [hb]; simp)
        | false=>rw [if_pos ⟨hm,hb⟩] at hk; have h2:=ih (i+1) (out++[l[i]]) (by omega) (by simp; omega) (by rw [zge]; exact hk); rw [← zcm zaa] at h2; simp (disch:=omega) only [hb,zcc,zaF,zan,za2,zbJ,zaB hlt,zaX,zam,zbO,zbL,zbf,w64_id]; rw [zcs (by simp)]; exact h2
      · simp (disch:=omega) only [hm,zie,zfi,zaF,show (m == (i:Int))=false by simpa using hmi,zat,w64_id]; exact stay (by rw [hm]; intro h; exact hmi (by injection h.1))
 exact loop l.length 0 [] (by omega) (by simp) rfl
def zAX:za1:=⟨0,0,0,0,[]⟩
def markerR:Option (Nat×za1)→za1×Bool
 | some (_,y)=>(y,true)
 | none=>(zAX,false)
set_option maxRecDepth 10000
def cmpI (a b:Int):Int:=if a < b then -1 else if b < a then 1 else 0
theorem c_isNaN (a:Int):cw zjv [I a] []=some (zai false):=by refine zxz a ?_; simp; rfl
theorem c_cmp (a b:Int):cw zdz [I a,I b] []=some (zbh (cmpI a b)):=by
 refine zvj a b ?_; rw [c_isNaN a,zao,c_isNaN b,zao,zat,zat,zaY,zaY]; unfold cmpI; split
 · rfl
 · split <;> rfl
def zjc:List Int→Int
 | []=>0
 | x :: r=>if x=0 then zjc r else x
theorem c_Or (l:List Int) (hl:l.length≤1000000):cw zmD [.sl 1 (List.map zaj l)] []=some (zbh (zjc l)):=by
 refine zAq l ?_; refine range_ind l (fun i r=>zkI l (i:Nat)=some (zbh (zjc r))) ?_ ?_
 · refine zrY l _ ?_; rw [zam,zaY,iNQ]; rfl
 · intro i x r hi hx hr ih; refine zrY l _ ?_; rw [zam,zaY,iPQ,cPQ,za2,zcy,zaB hi,zaX,hx,w6Q]; by_cases h0:x=0
   · subst h0; simpa [zjc] using ih
   · simp only [h0,zjc,if_false,show (x != 0)=true from by simpa using h0,zaF]; rfl
def cmpS (a b:zaM):Int:=zjc [cmpI a.Time b.Time,cmpI a.Source b.Source,cmpI a.Seq b.Seq]
theorem zrA (a b:zaM):cw zeR [.agg (zbD a),.agg (zbD b)] []=some (zbh (cmpS a b)):=by refine zxI a b ?_; rw [c_cmp _ _,za4,c_cmp _ _,za4,c_cmp _ _,za4,c_Or _ (by simp),za4]; rfl
theorem zpS (a b:zaM):decide (0 < cmpS a b)=lessS b a:=by
 unfold cmpS cmpI lessS; simp only [zjc]
 repeat' split
 all_goals first | omega | (simp_all; done) | (simp_all; omega) | (simp; omega)
theorem cmpS_le (a b:zaM):decide (cmpS a b≤0)=!lessS b a:=by rw [← zpS]; simp only [← decide_not,Int.not_lt]
theorem cmpS_neg (a b:zaM):decide (cmpS a b < 0)=lessS a b:=by
 unfold cmpS cmpI lessS; simp only [zjc]
 repeat' split
 all_goals first | omega | (simp_all; done) | (simp_all; omega) | (simp; omega)
theorem c_Equal (a b:List Int) (hl:a.length≤1000000):cw zfz [.sl 1 (List.map zaj a),.sl 1 (List.map zaj b)] []=some (zai (dec (a=b))):=by
 refine zqX a b ?_; by_cases h:a.length=b.length
 · simp only [zam,h,bne_self_eq_false,zat]; have H:=zlL a.length (fun j hj=>a[j]=b[j]'(by omega)) (fun i=>zeV a b i) zai ?_ ?_ ?_
   · rw [H,zkF]; exact ⟨fun hh=>zpC h (fun i h1 h2=>hh i h1),fun hh=>by subst hh; intros; rfl⟩
   · exact zgt _ _ _ (by simp (disch:=omega) only [zam,zaO]; rfl)
   · intro i hi hn; refine zgt _ _ _ ?_; simp (disch:=omega) only [zam,zaD,zan,za2,zcy,zaB hi,zaB (show i < b.length by omega),zaX,show (a[i] != b[i]'(by omega))=true by simpa using hn,zaF]; rfl
   · intro i hi y hn hk; refine zgt _ _ _ ?_; simp (disch:=omega) only [zam,zaD,zan,za2,zcy,zaB hi,zaB (show i < b.length by omega),zaX,show (a[i] != b[i]'(by omega))=false by simpa using hn,zat,w64_id,hk]
 · rw [zbq (fun hh=>h (by rw [hh]))]; simp only [zam,show ((a.length:Int) != (b.length:Int))=true by simp only [bne_iff_ne,ne_eq]; omega,zaF]; rfl
theorem zxx {p:Prop} [Decidable p]:dec p=decide p:=by
 by_cases h:p
 · rw [zbw h,decide_eq_true h]
 · rw [zbq h,decide_eq_false h]
theorem c_idx_t (l:List Int) (hl:l.length≤1000000):cw zb0 [.sl 1 (List.map zaj l),.fn zcv []] []=some (zbh (match fnd (fun m=>decide (200 < m)) 0 l with | some (i,_)=>(i:Int) | none=>-1)):=by
 refine znA l ?_; refine zir l (fun m=>decide (200 < m)) (fun i=>zdK l i) (fun o=>zbh (match o with | some (i,_)=>(i:Int) | none=>-1)) ?_ ?_ ?_
 · exact ze1 _ _ (by simp (disch:=omega) only [zam,zaO]; rfl)
 · intro i hi h; refine ze1 _ _ ?_; simp (disch:=omega) only [zam,zaD,zan,za2,zcy,zaB hi,zaX]; rw [zmA l[i] (y:=zai (decide (200 < l[i]))) rfl,zao,h,zaF]; rfl
 · intro i hi y h hk; refine ze1 _ _ ?_; simp (disch:=omega) only [zam,zaD,zan,za2,zcy,zaB hi,zaX]; rw [zmA l[i] (y:=zai (decide (200 < l[i]))) rfl,zao,h,zat,w6Q]; exact hk
theorem fnd_any {α:Type} {p:α→Bool} {l:List α}:(fnd p 0 l).isSome=l.any p:=by
 cases h:fnd p 0 l with
 | none=>have:=znH.1 h; symm; simp only [znk,List.any_eq_false]; intro x hx; simp [this x hx]
 | some q=>obtain ⟨i,x⟩:=q; obtain ⟨h1,h2,_⟩:=fnd_at h; simp only [zie]; symm; exact List.any_eq_true.2 ⟨x,zbU h1,h2⟩
theorem zAd (l:List Int) (hl:l.length≤1000000):cw zbP [.sl 1 (List.map zaj l),.fn zcv []] []=some (zai (l.any fun m=>decide (200 < m))):=by
 refine zmt l ?_; rw [c_idx_t l hl,za4,← fnd_any]
 cases fnd (fun m=>decide (200 < m)) 0 l with
 | none=>rfl
 | some q=>simp; rfl
theorem zxp (l:List Int) (hl:l.length≤1000000):cw zgY [.sl 1 (List.map zaj l)] []=some (zai (greatB l)):=by
 refine zuj l ?_; unfold greatB; rw [zAd l hl,zao,zam]; by_cases h:24 < l.length
 · rw [zaD (by omega)]; simp [h]; rfl
 · rw [zaO (by omega)]; simp [h]; rfl
theorem zxm (a b:Int) (ha:0≤a∧a≤1000000) (hb:0≤b∧b≤1000000):cw zgX [I a,I b] []=some (zbh (distI a b)):=by refine zui a b ?_; rw [w6Q,w6Q]; rfl
theorem posI_bd {a:Int} (h:a≤200):0≤posI a∧posI a≤200:=by unfold posI; split <;> omega
theorem c_Good (r:za6) (hr:OkMon r) (a b:List Int) (ha:a.length≤1000000) (hb:b.length≤1000000):cw znD [.agg (zbG r),.sl 1 (List.map zaj a),.sl 1 (List.map zaj b)] []=some (zai (goodS r a b)):=by
 refine zyr r a b ?_; rw [zmy _ hr,za4,show ((0:Int) != 0)=false from rfl,zat,zxp a ha,zao,zxp b hb,zao,zam,zam]; unfold goodS; by_cases hl:a.length=b.length
 case neg=>rw [show ((a.length:Int) != (b.length:Int))=true by simp only [bne_iff_ne,ne_eq]; omega,zaF,show (a.length == b.length)=false by simpa using hl]; rfl
 rw [show ((a.length:Int) != (b.length:Int))=false by simp [hl],zat,show (a.length == b.length)=true by simpa using hl]
 cases hga:greatB a with
 | true=>rfl
 | false =>
 cases hgb:greatB b with
 | true=>rfl
 | false =>
 rw [zat,zat]
 have small:∀ l:List Int,greatB l=false→l.length≤24∧∀ m∈l,m≤200:=fun l h=>by unfold greatB at h; simp only [zwi,decide_eq_false_iff_not,List.any_eq_false,decide_eq_true_eq] at h; exact ⟨by omega,fun m hm=>by have:=h.2 m hm; omega⟩
 obtain ⟨sa1,sa2⟩:=small a hga; obtain ⟨sb1,sb2⟩:=small b hgb
 have key:∀ (n i:Nat) (x y:Int),i+n=a.length→0≤x∧x≤200*i→0≤y∧y≤200*i→zis r a b x y i=some (zai (zsO r (a.drop i) (b.drop i) x y)):=by
  intro n
  induction n with
  | zero=>intro i x y hi hx hy; refine zp9 _ _ _ _ _ _ ?_; rw [zam,zaO (by omega),zxm x y (by omega) (by omega),za4,zgi (by omega)]; rfl
  | succ n ih =>
    intro i x y hi hx hy; have h1:i < a.length:=by omega
    have h2:i < b.length:=by omega
    have p1:=posI_bd (sa2 _ (zbi h1)); have p2:=posI_bd (sb2 _ (zbi h2)); refine zp9 _ _ _ _ _ _ ?_; rw [zc3 h1,zc3 h2]; simp (disch:=omega) only [zam,zaD,zan,za2,zcy,zaB h1,zaB h2,zaX]; rw [show (if (0:Int) > a[i] then 0 else a[i])=posI a[i] from rfl,show (if (0:Int) > b[i] then 0 else b[i])=posI b[i] from rfl,zxm _ _ (by omega) (by omega),za4,zaY]; unfold zsO; split
    · rfl
    · rw [w6Q,w6Q,w6Q]; exact ih (i+1) _ _ (by omega) (by omega) (by omega)
 exact key a.length 0 0 0 (by omega) (by omega) (by omega)
theorem zyE (r:za6) (l:List Bool) (hl:l.length≤1000000):cw zhA [.agg (zbG r),.sl 1 (List.map nBool l)] []=some (zai (decide (r.Fails≤failsN l))):=by
 refine zvp r l ?_
 have key:∀ (n i:Nat) (x:Int),i+n=l.length→0≤x∧x≤i→zfg r l x i=some (zai (decide (r.Fails≤x+failsN (l.drop i)))):=by
  intro n
  induction n with
  | zero=>intro i x hi hx; refine znb _ _ _ _ ?_; rw [zam,zaO (by omega),zgi (by omega)]; rw [show x+failsN []=x by simp [failsN]]; rfl
  | succ n ih =>
    intro i x hi hx; have h1:i < l.length:=by omega
    refine znb _ _ _ _ ?_; rw [zc3 h1]; simp (disch:=omega) only [zam,zaD,zan,za2,elemD_Bool,zaB h1,zaX]
    cases hb:l[i] with
    | true=>rw [zbH,zat,w6Q]; have:=ih (i+1) x (by omega) (by omega); rw [show ((i:Int)+1)=((i+1:Nat):Int) by omega,this,show failsN (true :: List.drop (i+1) l)=failsN (List.drop (i+1) l) by simp [failsN]]
    | false =>
      rw [zcc,zaF,w6Q,w6Q]; have:=ih (i+1) (x+1) (by omega) (by omega); rw [show ((i:Int)+1)=((i+1:Nat):Int) by omega,this]
      have e:x+1+failsN (List.drop (i+1) l)=x+failsN (false :: List.drop (i+1) l):=by simp [failsN]; omega
      rw [e]
 have:=key l.length 0 0 (by omega) (by omega); simpa using this
theorem c_MValid (r:za6) (hr:OkMon r) (w:zc2) (hw:zre r w):cw zmJ [.agg (zbG r),.agg (zje w)] []=some (zai true):=by have h1:=hw.1; have h2:=hr.2.2.1; refine zxG r w ?_; rw [zmy _ hr,za4,show ((0:Int) == 0)=true from rfl,zaF,zam,zaD (by omega),zyE r w.Last (by omega),zao,← hw.2]; simp; rfl
theorem c_CloneB (hok:CallOK zP (single zbB zOrc)) (l:List Bool) (hl:l.length≤1000000):cw zbB [.sl 1 (List.map nBool l)] []=some (zgr l):=znM hok (by
 show (if (List.map nBool l).length≤100000000 then some (AV.new 1 zfw (List.map nBool l),([]:Mem)) else none)=_; rw [if_pos (by simp; omega)]
 rfl)
theorem c_CloneI (hok:CallOK zP (single zbx zOrc)) (l:List Int) (hl:l.length≤1000000):cw zbx [.sl 1 (List.map zaj l)] []=some (zhr l):=znM hok (by
 show (if (List.map zaj l).length≤100000000 then some (AV.new 1 za5 (List.map zaj l),([]:Mem)) else none)=_; rw [if_pos (by simp; omega)]
 rfl)
theorem c_Step (hok:CallOK zP (single zbB zOrc)) (r:za6) (hr:OkMon r) (w:zc2) (hw:zre r w) (b:Bool):cw znE [.agg (zbG r),.agg (zje w),B b] []=some (zkM (if w.Suspended then (⟨[],false⟩,8) else (stepW r w b,0))):=by
 have h1:=hw.1; have h2:=hr.2.2.1; refine zys r w b ?_; rw [c_MValid r hr w hw,zao,zbH,zat]
 cases hs:w.Suspended with
 | true=>rfl
 | false =>
 have hlen:(List.map nBool w.Last++[[AV.v (Go.Value.bool b)]]).length=w.Last.length+1:=by simp
 rw [zat,c_CloneB hok _ (by omega),znx,zan rfl,zan (by simp only [zam]; omega),zan rfl,hlen]
 have fin:∀ x2 x3:Nat,x2+x3=w.Last.length+1→(x3:Int)≤r.Window→(w.Last++[b]).drop x2=lastW r w b→zit r w b w.Last x2 x3=some (zkM (stepW r w b,0)):=by
  intro x2 x3 h3 h4 h5
  have e:List.take x3 (List.drop x2 (List.map nBool w.Last++[nBool b]))=List.map nBool (lastW r w b):=by rw [zcm nBool,← List.map_drop,h5,zcs]; rw [← h5]; simp; omega
  have hle:(lastW r w b).length≤1000000:=by rw [← h5]; simp; omega
  refine zqa _ _ _ _ _ _ ?_; rw [zaO (by omega),zan (by rw [hlen]; omega),e,zyE r _ hle,zao,zan (by rw [hlen]; omega),show List.take x3 (List.drop x2 (List.map nBool w.Last++[[B b]]))=List.map nBool (lastW r w b) from e]; rfl
 by_cases hc:r.Window < (w.Last.length:Int)+1
 · refine zqa _ _ _ _ _ _ ?_; rw [zaD (by omega),cPQ,cPQ,cPQ]; refine fin _ _ (by omega) (by omega) ?_; unfold lastW; rw [if_pos (by simp; omega)]; rfl
 · refine fin 0 _ (by omega) (by omega) ?_; unfold lastW; rw [if_neg (by simp; omega)]; rfl
theorem zA4 (x:GPart) (v:Int):cw zkc [.agg (zaQ x),I v] []=some (zai (permB x v)):=by
 refine zul x v ?_; unfold permB; simp only [zeC,decide_eq_true_eq,beq_iff_eq]; by_cases h1:v=-1
 · rw [if_pos h1,if_pos h1]; rfl
 rw [if_neg h1,if_neg h1]; by_cases h2:x.Kind=2
 · rw [if_pos h2,if_pos h2]; by_cases h3:v=0
   · rw [if_pos h3,h3]; rfl
   · rw [if_neg h3,show (v == 0)=false by simpa using h3,zrp]; rfl
 rw [if_neg h2,if_neg h2]; split
 · rename_i h; rw [show decide (0≤v∧v≤x.Max)=decide (v≤x.Max) by simp [h]]; rfl
 · rename_i h; rw [show decide (0≤v∧v≤x.Max)=false by simp [h]]; rfl
theorem zA0 (p:zaG) (c:zbt) (j:Nat) (x:GPart) (v:Int) (hs:Short c) (hok:zfW p c) (hx:p.Parts[j]?=some x):cw zkb [.agg (zaJ p),.agg (zbY c),I j,I v] []=some (zai (permB x v)):=by obtain ⟨hj,hx⟩:=zbu.1 hx; refine zuk p c j v ?_; simp (disch:=omega) only [zhM p c hs,zao,zbw hok,zaF,zam,zaD,zan,za2,zeo,zaB hj,zaX,hx,zA4,zao]; rfl
theorem c_mayMark (m:za1) (x:zaR) (hl:m.Papers.length≤1000000):cw zlS [.agg (zaT m),.agg (za0 x)] []=some (zai (mayB m x)):=by
 refine zwG m x ?_; unfold mayB; rw [zxk _ _ hl,zao]
 cases h:(m.Centre != x.Centre) with
 | true=>rw [zaF,zni,zxx,List.elem_eq_contains.symm,List.elem_eq_mem]; rfl
 | false=>rw [zat,zpD]; rfl
theorem c_Find (hok:CallOK zP (single zbx zOrc)) (l:List za1) (n:Int) (hl:l.length≤1000000) (hm:∀ m∈l,m.Papers.length≤1000000):cw zoy [.sl 5 (List.map zaT l),I n] []=some (zmU (markerR (zwT l n))):=by
 refine zzA l n ?_; refine zir l (fun y=>y.ID == n) (fun i=>zjz l n i) (fun o=>zmU (markerR o)) ?_ ?_ ?_
 · exact zmZ _ _ _ (by simp (disch:=omega) only [zam,zaO]; rfl)
 · intro i hi h; refine zmZ _ _ _ ?_; simp (disch:=omega) only [zam,zaD,zan,za2,zes,zaB hi,zaX,h,zaF]; rw [c_CloneI hok _ (hm _ (zbi hi)),ziS,zcs (by simp)]; rfl
 · intro i hi y h hk; refine zmZ _ _ _ ?_; simp (disch:=omega) only [zam,zaD,zan,za2,zes,zaB hi,zaX,h,zat,w64_id,hk]
theorem c_Eligible (hok:CallOK zP (single zbx zOrc)) (l:List za1) (n:Int) (x:zaR) (hl:l.length≤1000000) (hm:∀ m∈l,m.Papers.length≤1000000):cw zla [.sl 5 (List.map zaT l),I n,.agg (za0 x)] []=some (zai (eligB l n x)):=by
 refine zvm l n x ?_; rw [c_Find hok l n hl hm,zvg]; unfold eligB
 cases h:zwT l n with
 | none=>rfl
 | some q=>obtain ⟨k,m⟩:=q; have hmem:=zbU (fnd_at h).1; simp only [markerR,zaF,c_mayMark m x (hm m hmem),zao]; rfl
set_option maxRecDepth 100000
def cells (x:Nat→Option Addr):List AV:=(List.range 100).map fun i=>.v (.pointer (x i))
theorem w0 (s:zaz) (ev:List zab):tReg zaE zT 0 ⟨[(0,AV.agg [AV.sl 5 (List.map zaT s.Markers),AV.sl 7 (List.map za0 s.Scripts),AV.sl 3 (List.map zaJ s.Papers),AV.sl 2 (List.map zbY s.Schemes),AV.sl 2 (List.map zch s.Seeds),I s.Monitor.Part,I s.Monitor.Total,I s.Monitor.Window,I s.Monitor.Fails]),(1,AV.sl 9 (List.map zaa ev))],[]⟩=(some ⟨[(1,AV.sl 9 (List.map zaa ev)),(2,AV.loc 2 9 0 0)],[(2,⟨9,zaA,[zaq s],true⟩)]⟩):=by kernel_rfl
theorem w1 (s:zaz) (ev:List zab):tReg zaE zT 1 ⟨[(1,AV.sl 9 (List.map zaa ev)),(2,AV.loc 2 9 0 0)],[(2,⟨9,zaA,[zaq s],true⟩)]⟩=(some ⟨[(1,AV.sl 9 (List.map zaa ev)),(2,AV.loc 2 9 0 0),(6,AV.loc 18 100 0 0)],[(2,⟨9,zaA,[zaq s],true⟩),(18,⟨100,zaC,[cells fun _=>none],true⟩)]⟩):=by kernel_rfl
theorem w2 (s:zaz) (ev:List zab) (x:Nat→Option Addr):tReg zaE zT 2 ⟨[(1,AV.sl 9 (List.map zaa ev)),(2,AV.loc 2 9 0 0),(6,AV.loc 18 100 0 0)],[(2,⟨9,zaA,[zaq s],true⟩),(18,⟨100,zaC,[cells x],true⟩)]⟩=(some ⟨[(1,AV.sl 9 (List.map zaa ev)),(2,AV.loc 2 9 0 0),(6,AV.loc 18 100 0 0),(20,AV.sl 5 (List.map zaT s.Markers)),(21,I ((↑(List.map zaT s.Markers).length:Int))),(22,I 0)],[(2,⟨9,zaA,[zaq s],true⟩),(18,⟨100,zaC,[cells x],true⟩)]⟩):=by kernel_rfl
theorem w3 (s:zaz) (ev:List zab) (x:Nat→Option Addr) (n:Int) (i:Int):tReg zaE zT 3 ⟨[(1,AV.sl 9 (List.map zaa ev)),(2,AV.loc 2 9 0 0),(6,AV.loc 18 100 0 0),(20,AV.sl 5 (List.map zaT s.Markers)),(21,I n),(22,I i)],[(2,⟨9,zaA,[zaq s],true⟩),(18,⟨100,zaC,[cells x],true⟩)]⟩=(some ⟨[(1,AV.sl 9 (List.map zaa ev)),(2,AV.loc 2 9 0 0),(6,AV.loc 18 100 0 0),(20,AV.sl 5 (List.map zaT s.Markers)),(21,I n),(22,I i),(23,B (decide (i < n)))],[(2,⟨9,zaA,[zaq s],true⟩),(18,⟨100,zaC,[cells x],true⟩)]⟩):=by kernel_rfl
theorem w4 (s:zaz) (ev:List zab) (x:Nat→Option Addr) (n:Int) (i:Int):tReg zaE zT 4 ⟨[(1,AV.sl 9 (List.map zaa ev)),(2,AV.loc 2 9 0 0),(6,AV.loc 18 100 0 0),(20,AV.sl 5 (List.map zaT s.Markers)),(21,I n),(22,I i)],[(2,⟨9,zaA,[zaq s],true⟩),(18,⟨100,zaC,[cells x],true⟩)]⟩=(chk ((0:Int)≤i)<|
 elemD zcF (List.map zaT s.Markers) i.toNat fun (c0:za1) =>
 some ⟨[(1,AV.sl 9 (List.map zaa ev)),(2,AV.loc 2 9 0 0),(6,AV.loc 18 100 0 0),(8,AV.loc 8 5 0 0),(20,AV.sl 5 (List.map zaT s.Markers)),(21,I n),(22,I i)],[(2,⟨9,zaA,[zaq s],true⟩),(8,⟨5,zcC,[zaT c0],true⟩),(18,⟨100,zaC,[cells x],true⟩)]⟩):=by kernel_rfl
theorem w6 (s:zaz) (ev:List zab) (x:Nat→Option Addr) (n:Int) (i:Int):tReg zaE zT 6 ⟨[(1,AV.sl 9 (List.map zaa ev)),(2,AV.loc 2 9 0 0),(6,AV.loc 18 100 0 0),(20,AV.sl 5 (List.map zaT s.Markers)),(21,I n),(22,I i)],[(2,⟨9,zaA,[zaq s],true⟩),(18,⟨100,zaC,[cells x],true⟩)]⟩=(some ⟨[(1,AV.sl 9 (List.map zaa ev)),(2,AV.loc 2 9 0 0),(6,AV.loc 18 100 0 0),(20,AV.sl 5 (List.map zaT s.Markers)),(21,I n),(22,I (w64 (i+1)))],[(2,⟨9,zaA,[zaq s],true⟩),(18,⟨100,zaC,[cells x],true⟩)]⟩):=by kernel_rfl
theorem w7 (s:zaz) (ev:List zab) (xs:List (List AV)):tReg zaE zT 7 ⟨[(1,AV.sl 9 (List.map zaa ev)),(2,AV.loc 2 9 0 0),(6,AV.loc 18 1 0 0)],[(2,⟨9,zaA,[zaq s],true⟩),(18,⟨1,zaC,xs,false⟩)]⟩=(some ⟨[(1,AV.sl 9 (List.map zaa ev)),(2,AV.loc 2 9 0 0),(6,AV.loc 18 1 0 0),(9,AV.map 37)],[(2,⟨9,zaA,[zaq s],true⟩),(18,⟨1,zaC,xs,false⟩),(37,⟨0,zap,[],false⟩)]⟩):=by kernel_rfl
theorem w8 (s:zaz) (ev:List zab) (xs:List (List AV)) (R:List (List AV)):tReg zaE zT 8 ⟨[(1,AV.sl 9 (List.map zaa ev)),(2,AV.loc 2 9 0 0),(6,AV.loc 18 1 0 0),(9,AV.map 37)],[(2,⟨9,zaA,[zaq s],true⟩),(18,⟨1,zaC,xs,false⟩),(37,⟨0,zap,R,false⟩)]⟩=(some ⟨[(2,AV.loc 2 9 0 0),(6,AV.loc 18 1 0 0),(9,AV.map 37),(38,AV.sl 9 (List.map zaa ev)),(39,I ((↑(List.map zaa ev).length:Int))),(40,I 0)],[(2,⟨9,zaA,[zaq s],true⟩),(18,⟨1,zaC,xs,false⟩),(37,⟨0,zap,R,false⟩)]⟩):=by kernel_rfl
theorem w9 (s:zaz) (ev:List zab) (xs:List (List AV)) (R:List (List AV)) (n:Int) (i:Int):tReg zaE zT 9 ⟨[(2,AV.loc 2 9 0 0),(6,AV.loc 18 1 0 0),(9,AV.map 37),(38,AV.sl 9 (List.map zaa ev)),(39,I n),(40,I i)],[(2,⟨9,zaA,[zaq s],true⟩),(18,⟨1,zaC,xs,false⟩),(37,⟨0,zap,R,false⟩)]⟩=(some ⟨[(2,AV.loc 2 9 0 0),(6,AV.loc 18 1 0 0),(9,AV.map 37),(38,AV.sl 9 (List.map zaa ev)),(39,I n),(40,I i),(41,B (decide (i < n)))],[(2,⟨9,zaA,[zaq s],true⟩),(18,⟨1,zaC,xs,false⟩),(37,⟨0,zap,R,false⟩)]⟩):=by kernel_rfl
theorem w10 (s:zaz) (ev:List zab) (xs:List (List AV)) (R:List (List AV)) (n:Int) (i:Int):tReg zaE zT 10 ⟨[(2,AV.loc 2 9 0 0),(6,AV.loc 18 1 0 0),(9,AV.map 37),(38,AV.sl 9 (List.map zaa ev)),(39,I n),(40,I i)],[(2,⟨9,zaA,[zaq s],true⟩),(18,⟨1,zaC,xs,false⟩),(37,⟨0,zap,R,false⟩)]⟩=(chk ((0:Int)≤i)<|
 elemD zaw (List.map zaa ev) i.toNat fun (c0:zab) =>
 some ⟨[(2,AV.loc 2 9 0 0),(6,AV.loc 18 1 0 0),(9,AV.map 37),(11,AV.loc 11 9 0 0),(38,AV.sl 9 (List.map zaa ev)),(39,I n),(40,I i)],[(2,⟨9,zaA,[zaq s],true⟩),(11,⟨9,zac,[zaa c0],true⟩),(18,⟨1,zaC,xs,false⟩),(37,⟨0,zap,R,false⟩)]⟩):=by kernel_rfl
theorem w11 (s:zaz) (ev:List zab) (xs:List (List AV)) (R:List (List AV)) (n:Int) (i:Int) (e:zab):tReg zaE zT 11 ⟨[(2,AV.loc 2 9 0 0),(6,AV.loc 18 1 0 0),(9,AV.map 37),(11,AV.loc 11 9 0 0),(38,AV.sl 9 (List.map zaa ev)),(39,I n),(40,I i)],[(2,⟨9,zaA,[zaq s],true⟩),(11,⟨9,zac,[zaa e],true⟩),(18,⟨1,zaC,xs,false⟩),(37,⟨0,zap,R,false⟩)]⟩=(some ⟨[(2,AV.loc 2 9 0 0),(6,AV.loc 18 1 0 0),(9,AV.map 37),(11,AV.loc 11 9 0 0),(38,AV.sl 9 (List.map zaa ev)),(39,I n),(40,I i),(45,I e.Kind)],[(2,⟨9,zaA,[zaq s],true⟩),(11,⟨9,zac,[zaa e],true⟩),(18,⟨1,zaC,xs,false⟩),(37,⟨0,zap,R,false⟩)]⟩):=by kernel_rfl
theorem w12 (s:zaz) (ev:List zab) (xs:List (List AV)) (R:List (List AV)) (n:Int) (i:Int) (e:zab):tReg zaE zT 12 ⟨[(2,AV.loc 2 9 0 0),(6,AV.loc 18 1 0 0),(9,AV.map 37),(11,AV.loc 11 9 0 0),(38,AV.sl 9 (List.map zaa ev)),(39,I n),(40,I i),(45,I e.Kind)],[(2,⟨9,zaA,[zaq s],true⟩),(11,⟨9,zac,[zaa e],true⟩),(18,⟨1,zaC,xs,false⟩),(37,⟨0,zap,R,false⟩)]⟩=(some ⟨[(2,AV.loc 2 9 0 0),(6,AV.loc 18 1 0 0),(9,AV.map 37),(11,AV.loc 11 9 0 0),(38,AV.sl 9 (List.map zaa ev)),(39,I n),(40,I i),(45,I e.Kind),(46,B (e.Kind == 1))],[(2,⟨9,zaA,[zaq s],true⟩),(11,⟨9,zac,[zaa e],true⟩),(18,⟨1,zaC,xs,false⟩),(37,⟨0,zap,R,false⟩)]⟩):=by kernel_rfl
theorem w13 (s:zaz) (ev:List zab) (xs:List (List AV)) (R:List (List AV)) (n:Int) (i:Int) (e:zab):tReg zaE zT 13 ⟨[(2,AV.loc 2 9 0 0),(6,AV.loc 18 1 0 0),(9,AV.map 37),(11,AV.loc 11 9 0 0),(38,AV.sl 9 (List.map zaa ev)),(39,I n),(40,I i)],[(2,⟨9,zaA,[zaq s],true⟩),(11,⟨9,zac,[zaa e],true⟩),(18,⟨1,zaC,xs,false⟩),(37,⟨0,zap,R,false⟩)]⟩=(chk ((0:Int)≤e.Marker)<|
 chk ((e.Marker:Int) < (↑100:Int))<|
 elemP ze7 xs (0+e.Marker.toNat) (some ⟨[(2,AV.loc 2 9 0 0),(6,AV.loc 18 1 0 0),(9,AV.map 37),(11,AV.loc 11 9 0 0),(12,AV.v (.pointer none)),(38,AV.sl 9 (List.map zaa ev)),(39,I n),(40,I i)],[(2,⟨9,zaA,[zaq s],true⟩),(11,⟨9,zac,[zaa e],true⟩),(18,⟨1,zaC,xs,false⟩),(37,⟨0,zap,R,false⟩)]⟩)
 (fun (p0:Addr)=>some ⟨[(2,AV.loc 2 9 0 0),(6,AV.loc 18 1 0 0),(9,AV.map 37),(11,AV.loc 11 9 0 0),(12,AV.v (.pointer (some p0))),(38,AV.sl 9 (List.map zaa ev)),(39,I n),(40,I i)],[(2,⟨9,zaA,[zaq s],true⟩),(11,⟨9,zac,[zaa e],true⟩),(18,⟨1,zaC,xs,false⟩),(37,⟨0,zap,R,false⟩)]⟩)
 fun (c1:zah) =>
 some ⟨[(2,AV.loc 2 9 0 0),(6,AV.loc 18 1 0 0),(9,AV.map 37),(11,AV.loc 11 9 0 0),(12,AV.fp [I c1.level,AV.sl 10 (List.map zak c1.marks),I c1.period,I c1.started.Time,I c1.started.Source,I c1.started.Seq,AV.mp (List.map zau c1.noted),AV.sl 1 (List.map nBool c1.watch.Last),B c1.watch.Suspended,I c1.good.Time,I c1.good.Source,I c1.good.Seq,B c1.some,AV.sl 12 (List.map zag c1.suspensions)]),(38,AV.sl 9 (List.map zaa ev)),(39,I n),(40,I i)],[(2,⟨9,zaA,[zaq s],true⟩),(11,⟨9,zac,[zaa e],true⟩),(18,⟨1,zaC,xs,false⟩),(37,⟨0,zap,R,false⟩)]⟩):=by kernel_rfl
theorem w14n (s:zaz) (ev:List zab) (xs:List (List AV)) (R:List (List AV)) (n:Int) (i:Int) (e:zab):tReg zaE zT 14 ⟨[(2,AV.loc 2 9 0 0),(6,AV.loc 18 1 0 0),(9,AV.map 37),(11,AV.loc 11 9 0 0),(12,AV.v (.pointer none)),(38,AV.sl 9 (List.map zaa ev)),(39,I n),(40,I i)],[(2,⟨9,zaA,[zaq s],true⟩),(11,⟨9,zac,[zaa e],true⟩),(18,⟨1,zaC,xs,false⟩),(37,⟨0,zap,R,false⟩)]⟩=(some ⟨[(2,AV.loc 2 9 0 0),(6,AV.loc 18 1 0 0),(9,AV.map 37),(11,AV.loc 11 9 0 0),(12,AV.v (.pointer none)),(38,AV.sl 9 (List.map zaa ev)),(39,I n),(40,I i),(55,B (!true))],[(2,⟨9,zaA,[zaq s],true⟩),(11,⟨9,zac,[zaa e],true⟩),(18,⟨1,zaC,xs,false⟩),(37,⟨0,zap,R,false⟩)]⟩):=by kernel_rfl
theorem w14p (s:zaz) (ev:List zab) (xs:List (List AV)) (R:List (List AV)) (n:Int) (i:Int) (e:zab) (p:Addr):tReg zaE zT 14 ⟨[(2,AV.loc 2 9 0 0),(6,AV.loc 18 1 0 0),(9,AV.map 37),(11,AV.loc 11 9 0 0),(12,AV.v (.pointer (some p))),(38,AV.sl 9 (List.map zaa ev)),(39,I n),(40,I i)],[(2,⟨9,zaA,[zaq s],true⟩),(11,⟨9,zac,[zaa e],true⟩),(18,⟨1,zaC,xs,false⟩),(37,⟨0,zap,R,false⟩)]⟩=(some ⟨[(2,AV.loc 2 9 0 0),(6,AV.loc 18 1 0 0),(9,AV.map 37),(11,AV.loc 11 9 0 0),(12,AV.v (.pointer (some p))),(38,AV.sl 9 (List.map zaa ev)),(39,I n),(40,I i),(55,B (!false))],[(2,⟨9,zaA,[zaq s],true⟩),(11,⟨9,zac,[zaa e],true⟩),(18,⟨1,zaC,xs,false⟩),(37,⟨0,zap,R,false⟩)]⟩):=by kernel_rfl
theorem w15 (s:zaz) (ev:List zab) (xs:List (List AV)) (R:List (List AV)) (n:Int) (i:Int) (e:zab) (p:Addr) (d:zah):tReg0 zaE zT 15 ⟨[(12,AV.loc 1300 14 0 0),(2,AV.loc 2 9 0 0),(6,AV.loc 18 1 0 0),(9,AV.map 37),(11,AV.loc 11 9 0 0),(12,AV.v (.pointer (some p))),(38,AV.sl 9 (List.map zaa ev)),(39,I n),(40,I i)],[(1300,⟨14,za8,[[I d.level,AV.row 301 10 0 (List.length (List.map zak d.marks)),I d.period,I d.started.Time,I d.started.Source,I d.started.Seq,AV.map 302,AV.sl 1 (List.map nBool d.watch.Last),B d.watch.Suspended,I d.good.Time,I d.good.Source,I d.good.Seq,B d.some,AV.row 303 12 0 (List.length (List.map zag d.suspensions))]],true⟩),(301,⟨10,za9,List.map zak d.marks,false⟩),(302,⟨0,zaK,List.map zau d.noted,false⟩),(303,⟨12,zas,List.map zag d.suspensions,false⟩),(2,⟨9,zaA,[zaq s],true⟩),(11,⟨9,zac,[zaa e],true⟩),(18,⟨1,zaC,xs,false⟩),(37,⟨0,zap,R,false⟩)]⟩=(chk ((List.map zak d.marks).length=(List.map zak d.marks).length)<|
 chk ((List.map zag d.suspensions).length=(List.map zag d.suspensions).length)<|
 callD zcn (cw zeQ [AV.loc 1000 14 0 0,AV.agg (zbD e.Stamp)] [(1000,⟨14,za8,[[I d.level,AV.row 900 10 0 ((List.map zak d.marks).length),I d.period,I d.started.Time,I d.started.Source,I d.started.Seq,AV.map 901,AV.sl 1 (List.map nBool d.watch.Last),B d.watch.Suspended,I d.good.Time,I d.good.Source,I d.good.Seq,B d.some,AV.row 902 12 0 ((List.map zag d.suspensions).length)]],true⟩),(900,⟨10,za9,List.map zak d.marks,false⟩),(901,⟨0,zaK,List.map zau d.noted,false⟩),(902,⟨12,zas,List.map zag d.suspensions,false⟩)]) fun (r0:zah) =>
 some ⟨[(59,AV.tup []),(58,AV.agg [I e.Stamp.Time,I e.Stamp.Source,I e.Stamp.Seq]),(57,AV.loc 11 9 0 (0+0)),(56,AV.loc 1300 14 0 0),(12,AV.loc 1300 14 0 0),(2,AV.loc 2 9 0 0),(6,AV.loc 18 1 0 0),(9,AV.map 37),(11,AV.loc 11 9 0 0),(12,AV.v (.pointer (some p))),(38,AV.sl 9 (List.map zaa ev)),(39,I n),(40,I i)],[(301,⟨10,za9,List.map zak r0.marks,false⟩),(302,⟨0,zaK,List.map zau r0.noted,false⟩),(303,⟨12,zas,List.map zag r0.suspensions,false⟩),(1300,⟨14,za8,[[I r0.level,AV.row 301 10 0 (List.length (List.map zak r0.marks)),I r0.period,I r0.started.Time,I r0.started.Source,I r0.started.Seq,AV.map 302,AV.sl 1 (List.map nBool r0.watch.Last),B r0.watch.Suspended,I r0.good.Time,I r0.good.Source,I r0.good.Seq,B r0.some,AV.row 303 12 0 (List.length (List.map zag r0.suspensions))]],true⟩),(2,⟨9,zaA,[zaq s],true⟩),(11,⟨9,zac,[zaa e],true⟩),(18,⟨1,zaC,xs,false⟩),(37,⟨0,zap,R,false⟩)]⟩):=by kernel_rfl
theorem w16 (s:zaz) (ev:List zab) (xs:List (List AV)) (R:List (List AV)) (n:Int) (i:Int) (e:zab):tReg zaE zT 16 ⟨[(2,AV.loc 2 9 0 0),(6,AV.loc 18 1 0 0),(9,AV.map 37),(11,AV.loc 11 9 0 0),(38,AV.sl 9 (List.map zaa ev)),(39,I n),(40,I i),(45,I e.Kind)],[(2,⟨9,zaA,[zaq s],true⟩),(11,⟨9,zac,[zaa e],true⟩),(18,⟨1,zaC,xs,false⟩),(37,⟨0,zap,R,false⟩)]⟩=(some ⟨[(2,AV.loc 2 9 0 0),(6,AV.loc 18 1 0 0),(9,AV.map 37),(11,AV.loc 11 9 0 0),(38,AV.sl 9 (List.map zaa ev)),(39,I n),(40,I i),(45,I e.Kind),(60,B (e.Kind == 2))],[(2,⟨9,zaA,[zaq s],true⟩),(11,⟨9,zac,[zaa e],true⟩),(18,⟨1,zaC,xs,false⟩),(37,⟨0,zap,R,false⟩)]⟩):=by kernel_rfl
theorem w17 (s:zaz) (ev:List zab) (xs:List (List AV)) (R:List (zay×zaM)) (n:Int) (i:Int) (e:zab):tReg zaE zT 17 ⟨[(2,AV.loc 2 9 0 0),(6,AV.loc 18 1 0 0),(9,AV.map 37),(11,AV.loc 11 9 0 0),(38,AV.sl 9 (List.map zaa ev)),(39,I n),(40,I i)],[(2,⟨9,zaA,[zaq s],true⟩),(11,⟨9,zac,[zaa e],true⟩),(18,⟨1,zaC,xs,false⟩),(37,⟨0,zap,List.map zal R,false⟩)]⟩=(msetD zP 117 49 (AV.agg (zbe (⟨e.Script,e.Part⟩))) (AV.agg (zbD e.Stamp)) (List.map zal R) fun (m0:List (List AV))=>some ⟨[(2,AV.loc 2 9 0 0),(6,AV.loc 18 1 0 0),(9,AV.map 37),(38,AV.sl 9 (List.map zaa ev)),(39,I n),(40,I i)],[(2,⟨9,zaA,[zaq s],true⟩),(18,⟨1,zaC,xs,false⟩),(37,⟨0,zap,m0,false⟩)]⟩):=by kernel_rfl
theorem w18 (s:zaz) (ev:List zab) (xs:List (List AV)) (R:List (List AV)) (n:Int) (i:Int) (e:zab):tReg zaE zT 18 ⟨[(2,AV.loc 2 9 0 0),(6,AV.loc 18 1 0 0),(9,AV.map 37),(11,AV.loc 11 9 0 0),(38,AV.sl 9 (List.map zaa ev)),(39,I n),(40,I i),(45,I e.Kind)],[(2,⟨9,zaA,[zaq s],true⟩),(11,⟨9,zac,[zaa e],true⟩),(18,⟨1,zaC,xs,false⟩),(37,⟨0,zap,R,false⟩)]⟩=(some ⟨[(2,AV.loc 2 9 0 0),(6,AV.loc 18 1 0 0),(9,AV.map 37),(11,AV.loc 11 9 0 0),(38,AV.sl 9 (List.map zaa ev)),(39,I n),(40,I i),(70,B (e.Kind == 0))],[(2,⟨9,zaA,[zaq s],true⟩),(11,⟨9,zac,[zaa e],true⟩),(18,⟨1,zaC,xs,false⟩),(37,⟨0,zap,R,false⟩)]⟩):=by kernel_rfl
theorem w19 (s:zaz) (ev:List zab) (xs:List (List AV)) (R:List (List AV)) (n:Int) (i:Int) (e:zab):tReg zaE zT 19 ⟨[(2,AV.loc 2 9 0 0),(6,AV.loc 18 1 0 0),(9,AV.map 37),(11,AV.loc 11 9 0 0),(38,AV.sl 9 (List.map zaa ev)),(39,I n),(40,I i)],[(2,⟨9,zaA,[zaq s],true⟩),(11,⟨9,zac,[zaa e],true⟩),(18,⟨1,zaC,xs,false⟩),(37,⟨0,zap,R,false⟩)]⟩=(chk (0 < xs.length)<|
 callD zf7 (cw zf3 [AV.fa 1 xs,AV.agg (zaq s),AV.agg (zaa e)] []) fun (r0:Int×(Option Addr)) =>
 some ⟨[(2,AV.loc 2 9 0 0),(6,AV.loc 18 1 0 0),(9,AV.map 37),(11,AV.loc 11 9 0 0),(13,I r0.fst),(14,AV.v (.pointer (r0.snd))),(38,AV.sl 9 (List.map zaa ev)),(39,I n),(40,I i)],[(2,⟨9,zaA,[zaq s],true⟩),(11,⟨9,zac,[zaa e],true⟩),(18,⟨1,zaC,xs,false⟩),(37,⟨0,zap,R,false⟩)]⟩):=by kernel_rfl
theorem w20n (s:zaz) (ev:List zab) (xs:List (List AV)) (R:List (List AV)) (n:Int) (i:Int) (e:zab) (q:Int):tReg zaE zT 20 ⟨[(2,AV.loc 2 9 0 0),(6,AV.loc 18 1 0 0),(9,AV.map 37),(11,AV.loc 11 9 0 0),(13,I q),(14,AV.v (.pointer none)),(38,AV.sl 9 (List.map zaa ev)),(39,I n),(40,I i)],[(2,⟨9,zaA,[zaq s],true⟩),(11,⟨9,zac,[zaa e],true⟩),(18,⟨1,zaC,xs,false⟩),(37,⟨0,zap,R,false⟩)]⟩=(some ⟨[(2,AV.loc 2 9 0 0),(6,AV.loc 18 1 0 0),(9,AV.map 37),(11,AV.loc 11 9 0 0),(13,I q),(14,AV.v (.pointer none)),(38,AV.sl 9 (List.map zaa ev)),(39,I n),(40,I i),(80,B true)],[(2,⟨9,zaA,[zaq s],true⟩),(11,⟨9,zac,[zaa e],true⟩),(18,⟨1,zaC,xs,false⟩),(37,⟨0,zap,R,false⟩)]⟩):=by kernel_rfl
theorem w20p (s:zaz) (ev:List zab) (xs:List (List AV)) (R:List (List AV)) (n:Int) (i:Int) (e:zab) (q:Int) (p:Addr):tReg zaE zT 20 ⟨[(2,AV.loc 2 9 0 0),(6,AV.loc 18 1 0 0),(9,AV.map 37),(11,AV.loc 11 9 0 0),(13,I q),(14,AV.v (.pointer (some p))),(38,AV.sl 9 (List.map zaa ev)),(39,I n),(40,I i)],[(2,⟨9,zaA,[zaq s],true⟩),(11,⟨9,zac,[zaa e],true⟩),(18,⟨1,zaC,xs,false⟩),(37,⟨0,zap,R,false⟩)]⟩=(some ⟨[(2,AV.loc 2 9 0 0),(6,AV.loc 18 1 0 0),(9,AV.map 37),(11,AV.loc 11 9 0 0),(13,I q),(14,AV.v (.pointer (some p))),(38,AV.sl 9 (List.map zaa ev)),(39,I n),(40,I i),(80,B false)],[(2,⟨9,zaA,[zaq s],true⟩),(11,⟨9,zac,[zaa e],true⟩),(18,⟨1,zaC,xs,false⟩),(37,⟨0,zap,R,false⟩)]⟩):=by kernel_rfl
theorem w21 (s:zaz) (ev:List zab) (xs:List (List AV)) (R:List (List AV)) (n:Int) (i:Int) (e:zab) (q:Int) (p:Addr):tReg zaE zT 21 ⟨[(2,AV.loc 2 9 0 0),(6,AV.loc 18 1 0 0),(9,AV.map 37),(11,AV.loc 11 9 0 0),(13,I q),(14,AV.v (.pointer (some p))),(38,AV.sl 9 (List.map zaa ev)),(39,I n),(40,I i)],[(2,⟨9,zaA,[zaq s],true⟩),(11,⟨9,zac,[zaa e],true⟩),(18,⟨1,zaC,xs,false⟩),(37,⟨0,zap,R,false⟩)]⟩=(callD ziF (cw zin [AV.agg (zaq s),I e.Script] []) fun (r0:GSeed×Bool)=>some ⟨[(2,AV.loc 2 9 0 0),(6,AV.loc 18 1 0 0),(9,AV.map 37),(11,AV.loc 11 9 0 0),(13,I q),(14,AV.v (.pointer (some p))),(15,AV.loc 15 2 0 0),(16,B r0.snd),(38,AV.sl 9 (List.map zaa ev)),(39,I n),(40,I i)],[(2,⟨9,zaA,[zaq s],true⟩),(11,⟨9,zac,[zaa e],true⟩),(15,⟨2,zda,[zch r0.fst],true⟩),(18,⟨1,zaC,xs,false⟩),(37,⟨0,zap,R,false⟩)]⟩):=by kernel_rfl
theorem w22 (s:zaz) (ev:List zab) (xs:List (List AV)) (R:List (List AV)) (n:Int) (i:Int) (e:zab) (q:Int) (p:Addr) (sd:GSeed) (b:Bool):tReg zaE zT 22 ⟨[(2,AV.loc 2 9 0 0),(6,AV.loc 18 1 0 0),(9,AV.map 37),(11,AV.loc 11 9 0 0),(13,I q),(14,AV.v (.pointer (some p))),(15,AV.loc 15 2 0 0),(16,B b),(38,AV.sl 9 (List.map zaa ev)),(39,I n),(40,I i)],[(2,⟨9,zaA,[zaq s],true⟩),(11,⟨9,zac,[zaa e],true⟩),(15,⟨2,zda,[zch sd],true⟩),(18,⟨1,zaC,xs,false⟩),(37,⟨0,zap,R,false⟩)]⟩=(some ⟨[(2,AV.loc 2 9 0 0),(6,AV.loc 18 1 0 0),(9,AV.map 37),(11,AV.loc 11 9 0 0),(13,I q),(14,AV.v (.pointer (some p))),(15,AV.loc 15 2 0 0),(38,AV.sl 9 (List.map zaa ev)),(39,I n),(40,I i),(88,B b)],[(2,⟨9,zaA,[zaq s],true⟩),(11,⟨9,zac,[zaa e],true⟩),(15,⟨2,zda,[zch sd],true⟩),(18,⟨1,zaC,xs,false⟩),(37,⟨0,zap,R,false⟩)]⟩):=by kernel_rfl
theorem w23 (s:zaz) (ev:List zab) (xs:List (List AV)) (R:List (List AV)) (n:Int) (i:Int) (e:zab) (q:Int) (p:Addr) (sd:GSeed) (d:zah):tReg0 zaE zT 23 ⟨[(14,AV.loc 1300 14 0 0),(2,AV.loc 2 9 0 0),(6,AV.loc 18 1 0 0),(9,AV.map 37),(11,AV.loc 11 9 0 0),(13,I q),(14,AV.v (.pointer (some p))),(15,AV.loc 15 2 0 0),(38,AV.sl 9 (List.map zaa ev)),(39,I n),(40,I i)],[(1300,⟨14,za8,[[I d.level,AV.row 301 10 0 (List.length (List.map zak d.marks)),I d.period,I d.started.Time,I d.started.Source,I d.started.Seq,AV.map 302,AV.sl 1 (List.map nBool d.watch.Last),B d.watch.Suspended,I d.good.Time,I d.good.Source,I d.good.Seq,B d.some,AV.row 303 12 0 (List.length (List.map zag d.suspensions))]],true⟩),(301,⟨10,za9,List.map zak d.marks,false⟩),(302,⟨0,zaK,List.map zau d.noted,false⟩),(303,⟨12,zas,List.map zag d.suspensions,false⟩),(2,⟨9,zaA,[zaq s],true⟩),(11,⟨9,zac,[zaa e],true⟩),(15,⟨2,zda,[zch sd],true⟩),(18,⟨1,zaC,xs,false⟩),(37,⟨0,zap,R,false⟩)]⟩=(chk ((0:Int)≤q)<|
 elemD zb6 (List.map zaJ s.Papers) q.toNat fun (c0:zaG) =>
 chk ((List.map zak d.marks).length=(List.map zak d.marks).length)<|
 chk ((List.map zag d.suspensions).length=(List.map zag d.suspensions).length)<|
 callD zcn (cw zgx [AV.loc 1000 14 0 0,AV.agg (zaq s),AV.agg (zaJ c0),AV.agg (zch sd),AV.agg (zaa e)] [(1000,⟨14,za8,[[I d.level,AV.row 900 10 0 ((List.map zak d.marks).length),I d.period,I d.started.Time,I d.started.Source,I d.started.Seq,AV.map 901,AV.sl 1 (List.map nBool d.watch.Last),B d.watch.Suspended,I d.good.Time,I d.good.Source,I d.good.Seq,B d.some,AV.row 902 12 0 ((List.map zag d.suspensions).length)]],true⟩),(900,⟨10,za9,List.map zak d.marks,false⟩),(901,⟨0,zaK,List.map zau d.noted,false⟩),(902,⟨12,zas,List.map zag d.suspensions,false⟩)]) fun (r1:zah) =>
 some ⟨[(98,AV.tup []),(97,AV.agg [I e.Stamp.Time,I e.Stamp.Source,I e.Stamp.Seq,I e.Kind,I e.Script,I e.Part,I e.Value,I e.Marker,AV.sl 1 (List.map zaj e.Pages)]),(96,AV.agg [I sd.Script,AV.sl 1 (List.map zaj sd.Marks)]),(95,AV.agg [I c0.Code,I c0.Variant,AV.sl 6 (List.map zaQ c0.Parts)]),(94,AV.fp [I c0.Code,I c0.Variant,AV.sl 6 (List.map zaQ c0.Parts)]),(93,I q),(92,AV.sl 3 (List.map zaJ s.Papers)),(91,AV.loc 2 9 0 (0+2)),(90,AV.agg [AV.sl 5 (List.map zaT s.Markers),AV.sl 7 (List.map za0 s.Scripts),AV.sl 3 (List.map zaJ s.Papers),AV.sl 2 (List.map zbY s.Schemes),AV.sl 2 (List.map zch s.Seeds),I s.Monitor.Part,I s.Monitor.Total,I s.Monitor.Window,I s.Monitor.Fails]),(89,AV.loc 1300 14 0 0),(14,AV.loc 1300 14 0 0),(2,AV.loc 2 9 0 0),(6,AV.loc 18 1 0 0),(9,AV.map 37),(11,AV.loc 11 9 0 0),(13,I q),(14,AV.v (.pointer (some p))),(15,AV.loc 15 2 0 0),(38,AV.sl 9 (List.map zaa ev)),(39,I n),(40,I i)],[(301,⟨10,za9,List.map zak r1.marks,false⟩),(302,⟨0,zaK,List.map zau r1.noted,false⟩),(303,⟨12,zas,List.map zag r1.suspensions,false⟩),(1300,⟨14,za8,[[I r1.level,AV.row 301 10 0 (List.length (List.map zak r1.marks)),I r1.period,I r1.started.Time,I r1.started.Source,I r1.started.Seq,AV.map 302,AV.sl 1 (List.map nBool r1.watch.Last),B r1.watch.Suspended,I r1.good.Time,I r1.good.Source,I r1.good.Seq,B r1.some,AV.row 303 12 0 (List.length (List.map zag r1.suspensions))]],true⟩),(2,⟨9,zaA,[zaq s],true⟩),(11,⟨9,zac,[zaa e],true⟩),(15,⟨2,zda,[zch sd],true⟩),(18,⟨1,zaC,xs,false⟩),(37,⟨0,zap,R,false⟩)]⟩):=by kernel_rfl
theorem w24 (s:zaz) (ev:List zab) (xs:List (List AV)) (R:List (List AV)) (n:Int) (i:Int) (e:zab) (q:Int) (p:Addr) (sd:GSeed) (d:zah):tReg0 zaE zT 24 ⟨[(14,AV.loc 1300 14 0 0),(2,AV.loc 2 9 0 0),(6,AV.loc 18 1 0 0),(9,AV.map 37),(11,AV.loc 11 9 0 0),(13,I q),(14,AV.v (.pointer (some p))),(15,AV.loc 15 2 0 0),(38,AV.sl 9 (List.map zaa ev)),(39,I n),(40,I i)],[(1300,⟨14,za8,[[I d.level,AV.row 301 10 0 (List.length (List.map zak d.marks)),I d.period,I d.started.Time,I d.started.Source,I d.started.Seq,AV.map 302,AV.sl 1 (List.map nBool d.watch.Last),B d.watch.Suspended,I d.good.Time,I d.good.Source,I d.good.Seq,B d.some,AV.row 303 12 0 (List.length (List.map zag d.suspensions))]],true⟩),(301,⟨10,za9,List.map zak d.marks,false⟩),(302,⟨0,zaK,List.map zau d.noted,false⟩),(303,⟨12,zas,List.map zag d.suspensions,false⟩),(2,⟨9,zaA,[zaq s],true⟩),(11,⟨9,zac,[zaa e],true⟩),(15,⟨2,zda,[zch sd],true⟩),(18,⟨1,zaC,xs,false⟩),(37,⟨0,zap,R,false⟩)]⟩=(chk ((List.map zak d.marks).length=(List.map zak d.marks).length)<|
 chk (((List.map zak d.marks).length+1)*(96+1)≤1099511627776)<|
 some ⟨[(114,AV.loc 1300 14 0 (0+1)),(113,AV.loc 1300 14 0 0),(112,AV.row 112 10 0 (List.length ((List.map zak d.marks)++([[I e.Stamp.Time,I e.Stamp.Source,I e.Stamp.Seq,I e.Kind,I e.Script,I e.Part,I e.Value,I e.Marker,AV.sl 1 (List.map zaj e.Pages),B d.watch.Suspended]])))),(111,AV.sl 10 ([[I e.Stamp.Time,I e.Stamp.Source,I e.Stamp.Seq,I e.Kind,I e.Script,I e.Part,I e.Value,I e.Marker,AV.sl 1 (List.map zaj e.Pages),B d.watch.Suspended]])),(110,AV.agg [I e.Stamp.Time,I e.Stamp.Source,I e.Stamp.Seq,I e.Kind,I e.Script,I e.Part,I e.Value,I e.Marker,AV.sl 1 (List.map zaj e.Pages),B d.watch.Suspended]),(109,B d.watch.Suspended),(108,AV.loc 1300 14 0 (0+7+1)),(107,AV.loc 1300 14 0 (0+7)),(106,AV.loc 1300 14 0 0),(105,AV.loc 1300 14 0 0),(104,AV.agg [I e.Stamp.Time,I e.Stamp.Source,I e.Stamp.Seq,I e.Kind,I e.Script,I e.Part,I e.Value,I e.Marker,AV.sl 1 (List.map zaj e.Pages)]),(103,.bot),(102,AV.loc 1300 14 0 (0+1)),(101,AV.loc 1300 14 0 0),(100,AV.loc 1300 14 0 0),(99,AV.loc 1300 14 0 0),(14,AV.loc 1300 14 0 0),(2,AV.loc 2 9 0 0),(6,AV.loc 18 1 0 0),(9,AV.map 37),(11,AV.loc 11 9 0 0),(13,I q),(14,AV.v (.pointer (some p))),(15,AV.loc 15 2 0 0),(38,AV.sl 9 (List.map zaa ev)),(39,I n),(40,I i)],[(112,⟨10,za9,(List.map zak d.marks)++([zak (⟨⟨⟨e.Stamp.Time,e.Stamp.Source,e.Stamp.Seq⟩,e.Kind,e.Script,e.Part,e.Value,e.Marker,e.Pages⟩,d.watch.Suspended⟩)]),false⟩),(1300,⟨14,za8,[[I d.level,AV.row 112 10 0 (List.length ((List.map zak d.marks)++([[I e.Stamp.Time,I e.Stamp.Source,I e.Stamp.Seq,I e.Kind,I e.Script,I e.Part,I e.Value,I e.Marker,AV.sl 1 (List.map zaj e.Pages),B d.watch.Suspended]]))),I d.period,I d.started.Time,I d.started.Source,I d.started.Seq,AV.map 302,AV.sl 1 (List.map nBool d.watch.Last),B d.watch.Suspended,I d.good.Time,I d.good.Source,I d.good.Seq,B d.some,AV.row 303 12 0 (List.length (List.map zag d.suspensions))]],true⟩),(302,⟨0,zaK,List.map zau d.noted,false⟩),(303,⟨12,zas,List.map zag d.suspensions,false⟩),(2,⟨9,zaA,[zaq s],true⟩),(11,⟨9,zac,[zaa e],true⟩),(15,⟨2,zda,[zch sd],true⟩),(18,⟨1,zaC,xs,false⟩),(37,⟨0,zap,R,false⟩)]⟩):=by kernel_rfl
theorem w25 (s:zaz) (ev:List zab) (xs:List (List AV)) (R:List (List AV)) (n:Int) (i:Int):tReg zaE zT 25 ⟨[(2,AV.loc 2 9 0 0),(6,AV.loc 18 1 0 0),(9,AV.map 37),(38,AV.sl 9 (List.map zaa ev)),(39,I n),(40,I i)],[(2,⟨9,zaA,[zaq s],true⟩),(18,⟨1,zaC,xs,false⟩),(37,⟨0,zap,R,false⟩)]⟩=(some ⟨[(2,AV.loc 2 9 0 0),(6,AV.loc 18 1 0 0),(9,AV.map 37),(38,AV.sl 9 (List.map zaa ev)),(39,I n),(40,I (w64 (i+1)))],[(2,⟨9,zaA,[zaq s],true⟩),(18,⟨1,zaC,xs,false⟩),(37,⟨0,zap,R,false⟩)]⟩):=by kernel_rfl
theorem w26 (xs:List (List AV)) (R:List (List AV)):tReg zaE zT 26 ⟨[(6,AV.loc 18 1 0 0),(9,AV.map 37)],[(18,⟨1,zaC,xs,false⟩),(37,⟨0,zap,R,false⟩)]⟩=(some ⟨[(4,AV.loc 18 1 0 0),(5,AV.map 37)],[(18,⟨1,zaC,xs,false⟩),(37,⟨0,zap,R,false⟩)]⟩):=by kernel_rfl
set_option maxRecDepth 100000
theorem zxh {p:Nat→Prop} {n:Nat} (h:∀ k,k < n→p k) (hn:p n):∀ k,k < n+1→p k:=fun k hk=>by
 rcases Nat.lt_succ_iff_lt_or_eq.1 hk with q | q
 · exact h k q
 · rw [q]; exact hn
theorem w5:∀ k:Nat,k < 100→∀ (s:zaz) (ev:List zab) (x:Nat→Option Addr) (n:Int) (i:Int) (c:Int) (l:Int) (cap:Int) (ps:List Int),tReg zaE zT 5 ⟨[(1,AV.sl 9 (List.map zaa ev)),(2,AV.loc 2 9 0 0),(6,AV.loc 18 100 0 0),(8,AV.loc 8 5 0 0),(20,AV.sl 5 (List.map zaT s.Markers)),(21,I n),(22,I i)],[(2,⟨9,zaA,[zaq s],true⟩),(8,⟨5,zcC,[zaT (⟨(k:Int),c,l,cap,ps⟩)],true⟩),(18,⟨100,zaC,[cells x],true⟩)]⟩=(some ⟨[(1,AV.sl 9 (List.map zaa ev)),(2,AV.loc 2 9 0 0),(6,AV.loc 18 100 0 0),(20,AV.sl 5 (List.map zaT s.Markers)),(21,I n),(22,I i)],[(2,⟨9,zaA,[zaq s],true⟩),(18,⟨100,zaC,[(cells x).set k (AV.loc 33 14 0 0)],true⟩),(33,⟨14,za8,[[I l,AV.row 301 10 0 0,I 0,I 0,I 0,I 0,AV.map 302,AV.sl 1 [],B false,I 0,I 0,I 0,B false,AV.row 303 12 0 0]],true⟩),(301,⟨10,za9,[],false⟩),(302,⟨0,zaK,[],false⟩),(303,⟨12,zas,[],false⟩)]⟩):=by
 repeat (first | exact fun _ h=>absurd h (Nat.not_lt_zero _) | refine zxh ?_ ?_)
 all_goals intros; kernel_rfl
set_option maxRecDepth 100000
def wkC:Code:=(zaE.fn.body).getD .skip
def wkO (j:Nat):Array Oper:=opsAt j wkC
def wkD (j:Nat):Bool:=zrF j wkC
theorem wk_hb:zaE.fn.body=some wkC:=by kernel_rfl
theorem wk_shape:wkC=(.seq (.region 0 (wkO 0) (wkD 0)) (.seq (.region 1 (wkO 1) (wkD 1)) (.seq (.seq (.region 2 (wkO 2) (wkD 2)) (.block 0 (.loop (.seq (.region 3 (wkO 3) (wkD 3)) (.seq (.cond (.tmp 23) .skip (.exit 0)) (.seq (.block 1 (.seq (.region 4 (wkO 4) (wkD 4)) (.region 5 (wkO 5) (wkD 5)))) (.region 6 (wkO 6) (wkD 6)))))))) (.seq (.region 7 (wkO 7) (wkD 7)) (.seq (.seq (.region 8 (wkO 8) (wkD 8)) (.block 2 (.loop (.seq (.region 9 (wkO 9) (wkD 9)) (.seq (.cond (.tmp 41) .skip (.exit 2)) (.seq (.block 3 (.seq (.region 10 (wkO 10) (wkD 10)) (.seq (.region 11 (wkO 11) (wkD 11)) (.block 4 (.seq (.region 12 (wkO 12) (wkD 12)) (.cond (.tmp 46) (.seq (.region 13 (wkO 13) (wkD 13)) (.seq (.region 14 (wkO 14) (wkD 14)) (.cond (.tmp 55) (.region 15 (wkO 15) (wkD 15)) .skip))) (.seq (.region 16 (wkO 16) (wkD 16)) (.cond (.tmp 60) (.region 17 (wkO 17) (wkD 17)) (.seq (.region 18 (wkO 18) (wkD 18)) (.cond (.tmp 70) (.seq (.region 19 (wkO 19) (wkD 19)) (.seq (.seq (.region 20 (wkO 20) (wkD 20)) (.cond (.tmp 80) (.exit 3) .skip)) (.seq (.region 21 (wkO 21) (wkD 21)) (.seq (.region 22 (wkO 22) (wkD 22)) (.cond (.tmp 88) (.region 23 (wkO 23) (wkD 23)) (.region 24 (wkO 24) (wkD 24))))))) .skip)))))))))) (.region 25 (wkO 25) (wkD 25)))))))) (.seq (.region 26 (wkO 26) (wkD 26)) .ret)))))):=by kernel_rfl
theorem wk_r0:regOf 0 wkC=some (.region 0 (wkO 0) (wkD 0)):=by kernel_rfl
theorem wk_r1:regOf 1 wkC=some (.region 1 (wkO 1) (wkD 1)):=by kernel_rfl
theorem wk_r2:regOf 2 wkC=some (.region 2 (wkO 2) (wkD 2)):=by kernel_rfl
theorem wk_r3:regOf 3 wkC=some (.region 3 (wkO 3) (wkD 3)):=by kernel_rfl
theorem wk_r4:regOf 4 wkC=some (.region 4 (wkO 4) (wkD 4)):=by kernel_rfl
theorem wk_r5:regOf 5 wkC=some (.region 5 (wkO 5) (wkD 5)):=by kernel_rfl
theorem wk_r6:regOf 6 wkC=some (.region 6 (wkO 6) (wkD 6)):=by kernel_rfl
theorem wk_r7:regOf 7 wkC=some (.region 7 (wkO 7) (wkD 7)):=by kernel_rfl
theorem wk_r8:regOf 8 wkC=some (.region 8 (wkO 8) (wkD 8)):=by kernel_rfl
theorem wk_r9:regOf 9 wkC=some (.region 9 (wkO 9) (wkD 9)):=by kernel_rfl
theorem wk_r10:regOf 10 wkC=some (.region 10 (wkO 10) (wkD 10)):=by kernel_rfl
theorem wk_r11:regOf 11 wkC=some (.region 11 (wkO 11) (wkD 11)):=by kernel_rfl
theorem wk_r12:regOf 12 wkC=some (.region 12 (wkO 12) (wkD 12)):=by kernel_rfl
theorem wk_r13:regOf 13 wkC=some (.region 13 (wkO 13) (wkD 13)):=by kernel_rfl
theorem wk_r14:regOf 14 wkC=some (.region 14 (wkO 14) (wkD 14)):=by kernel_rfl
theorem wk_r15:regOf 15 wkC=some (.region 15 (wkO 15) (wkD 15)):=by kernel_rfl
theorem wk_r16:regOf 16 wkC=some (.region 16 (wkO 16) (wkD 16)):=by kernel_rfl
theorem wk_r17:regOf 17 wkC=some (.region 17 (wkO 17) (wkD 17)):=by kernel_rfl
theorem wk_r18:regOf 18 wkC=some (.region 18 (wkO 18) (wkD 18)):=by kernel_rfl
theorem wk_r19:regOf 19 wkC=some (.region 19 (wkO 19) (wkD 19)):=by kernel_rfl
theorem wk_r20:regOf 20 wkC=some (.region 20 (wkO 20) (wkD 20)):=by kernel_rfl
theorem wk_r21:regOf 21 wkC=some (.region 21 (wkO 21) (wkD 21)):=by kernel_rfl
theorem wk_r22:regOf 22 wkC=some (.region 22 (wkO 22) (wkD 22)):=by kernel_rfl
theorem wk_r23:regOf 23 wkC=some (.region 23 (wkO 23) (wkD 23)):=by kernel_rfl
theorem wk_r24:regOf 24 wkC=some (.region 24 (wkO 24) (wkD 24)):=by kernel_rfl
theorem wk_r25:regOf 25 wkC=some (.region 25 (wkO 25) (wkD 25)):=by kernel_rfl
theorem wk_r26:regOf 26 wkC=some (.region 26 (wkO 26) (wkD 26)):=by kernel_rfl
theorem wk_n:zaE.fn.ntmps≤1000:=by decide
section
variable {w0:World} {S0:Nat→Prop} {κ0:Kap} {K:Nat→Prop} {S S':Nat→Prop} {κ κ':Kap} {a:Act} {w w':World}
theorem wkStep {j:Nat} {st st':St} {M:Nat→Option Mem} {κd:Nat→Kap} (hr:regOf j wkC=some (.region j (wkO j) (wkD j))) (ht:tReg zaE zT j st=some st')
  (h:Now w0 S0 κ0 K zaE.fn.ntmps M κd st a w) {Q:Exit→Act→World→Prop} (hQ:∀ a' w',Now w0 S0 κ0 K zaE.fn.ntmps M κd st' a' w'→Q .normal a' w'):(Code.region j (wkO j) (wkD j)).wp zaE.P Q a w:=by
 obtain ⟨S,κ,h1,h2⟩:=h; exact leafR wk_hb hr ht wk_n h1 (fun a' w' S' κ' hg hS hf hw=>hQ a' w' ⟨S',κ',hg,h2.step hS hf hw⟩)
end
abbrev deskM (d:zah):Mem:=[(300,⟨14,za8,[[I d.level,.row 301 10 0 ((List.map zak d.marks).length),I d.period,I d.started.Time,I d.started.Source,I d.started.Seq,.map 302,AV.sl 1 (List.map nBool d.watch.Last),B d.watch.Suspended,I d.good.Time,I d.good.Source,I d.good.Seq,B d.some,.row 303 12 0 ((List.map zag d.suspensions).length)]],true⟩),(301,⟨10,za9,List.map zak d.marks,false⟩),(302,⟨0,zaK,List.map zau d.noted,false⟩),(303,⟨12,zas,List.map zag d.suspensions,false⟩)]
abbrev mems (ds:Desks):Nat→Option Mem:=fun i=>(ds i).map deskM
def Points (ds:Desks) (κd:Nat→Kap) (x:Nat→Option Addr):Prop:=∀ i,i < 100→match ds i with
 | none=>x i=none
 | some _=>∃ g c,κd i 300=some (g,c)∧x i=some ⟨g,0,none⟩
set_option maxRecDepth 100000
noncomputable section
abbrev tH (s:zaz) (ev:List zab) (i:Int):Tab:=[(1,AV.sl 9 (List.map zaa ev)),(2,AV.loc 2 9 0 0),(6,AV.loc 18 100 0 0),(20,AV.sl 5 (List.map zaT s.Markers)),(21,I ((List.map zaT s.Markers).length:Int)),(22,I i)]
abbrev bS (s:zaz):Nat×Ent:=(2,⟨9,zaA,[zaq s],true⟩)
abbrev bB (x:Nat→Option Addr):Nat×Ent:=(18,⟨100,zaC,[cells x],true⟩)
abbrev stH (s:zaz) (ev:List zab) (x:Nat→Option Addr) (i:Int):St:=⟨tH s ev i,[bS s,bB x]⟩
abbrev m5 (s:zaz) (l:Int) (cs:List AV):Mem:=[bS s,(18,⟨100,zaC,[cs],true⟩),(33,⟨14,za8,[[I l,.row 301 10 0 0,I 0,I 0,I 0,I 0,.map 302,AV.sl 1 [],B false,I 0,I 0,I 0,B false,.row 303 12 0 0]],true⟩),(301,⟨10,za9,[],false⟩),(302,⟨0,zaK,[],false⟩),(303,⟨12,zas,[],false⟩)]
theorem zt8 (x:Nat→Option Addr) (j:Nat) (hj:j < 100):(cells x)[j]?=some (.v (.pointer (x j))):=by unfold cells; rw [zcW,znf hj]; rfl
theorem cells_set (x:Nat→Option Addr) (k:Nat) (p:Option Addr):(cells x).set k (.v (.pointer p))=cells fun i=>if i=k then p else x i:=by
 refine zjU fun j=>?_
 by_cases hj:j < 100
 · rw [zt8 _ _ hj,znq]; by_cases h:k=j
   · subst h; have hl:k < (cells x).length:=by unfold cells; simpa using hj
     simp [hl]
   · rw [if_neg h,zt8 _ _ hj,if_neg (fun e=>h e.symm)]
 · have h1:∀ y,(cells y).length=100:=fun y=>by unfold cells; simp
   rw [zpe (by rw [zpB,h1]; omega),zpe (by rw [h1]; omega)]
section
variable {w0:World} {S0:Nat→Prop} {κ0:Kap} {K:Nat→Prop} {N:Nat} {a:Act} {w:World}
theorem wk_new {s:zaz} {ev:List zab} {i l:Int} {x:Nat→Option Addr} {ds:Desks} {κd:Nat→Kap} {k:Nat} (hk:k < 100)
  (h:Now w0 S0 κ0 K N (mems ds) κd ⟨tH s ev i,m5 s l ((cells x).set k (.loc 33 14 0 0))⟩ a w) (hp:Points ds κd x):∃ κd' x',Now w0 S0 κ0 K N (mems (upd ds k (desk0 l))) κd' (stH s ev x' i) a w∧Points (upd ds k (desk0 l)) κd' x':=by
 obtain ⟨S,κ,hg,ho⟩:=h
 have h33:∃ g c,κ 33=some (g,c):=by
  have hE:=hg.ents 33 _ rfl
  cases hq:κ 33 with
  | some gc=>exact ⟨gc.1,gc.2,rfl⟩
  | none=>rw [hq] at hE; have:=(hE.1 (.inl rfl)).2.2; cases this
 obtain ⟨g,c,hκ⟩:=h33; have hl:k < (cells x).length:=by unfold cells; simpa using hk
 have g1:GoodS w0 S0 κ0 K N S κ ⟨tH s ev i,m5 s l (cells fun i=>if i=k then some ⟨g,0,none⟩ else x i)⟩ a w:=by
  have q:=Good.recell (B:=18) (j:=k) (cs:=(cells x).set k (.loc 33 14 0 0)) (a0:=.loc 33 14 0 0) (a1:=.v (.pointer (some ⟨g,0,none⟩))) hg rfl rfl rfl (by simp [hl]) (fun v hv=>by
   obtain ⟨g',c',_,hk',rfl⟩:=hv.loc_inv; rw [hκ] at hk'; injection hk' with hk'; injection hk' with e1 _; subst e1
   exact .c (.v _))
  have e:(fun b=>if b=18 then some ({ z:=100,e:=zaC,es:=[((cells x).set k (.loc 33 14 0 0)).set k (.v (.pointer (some ⟨g,0,none⟩)))],box:=true }:Ent) else Ab.look (m5 s l ((cells x).set k (.loc 33 14 0 0))) b)=Ab.look (m5 s l (cells fun i=>if i=k then some ⟨g,0,none⟩ else x i)):=by
   funext b; rw [List.set_set,cells_set]; simp only [m5,bS,Ab.look]; by_cases h2:b=2
   · simp [h2]
   · by_cases h18:b=18
     · simp [h18]
     · simp [h2,h18]
  unfold GoodS; rw [← e]; exact q
 have o1:Objs w0 κ0 K S κ (Ab.look (m5 s l (cells fun i=>if i=k then some ⟨g,0,none⟩ else x i))) w (mems ds) κd:=ho.kap (fun b g c hl hk=>⟨b,c,by
  simp only [m5,bS,Ab.look] at hl ⊢; by_cases h2:b=2
  · simp [h2]
  · by_cases h18:b=18
    · simp [h18]
    · simpa [h2,h18] using hl,hk⟩)
 have g2:=g1.ren (b:=33) (s:=300) (by omega) (by omega) (by omega) rfl; have e2:renS 33 300 ⟨tH s ev i,m5 s l (cells fun i=>if i=k then some ⟨g,0,none⟩ else x i)⟩=⟨tH s ev i,[bS s,bB (fun i=>if i=k then some ⟨g,0,none⟩ else x i)]++deskM (desk0 l)⟩:=by kernel_rfl
 rw [e2] at g2
 have o2:Objs w0 κ0 K S (fun c=>if c=300 then κ 33 else κ c) (Ab.look ([bS s,bB (fun i=>if i=k then some ⟨g,0,none⟩ else x i)]++deskM (desk0 l))) w (mems ds) κd:=o1.kap (fun b g c hl hk=>by
  by_cases hb:b=300
  · rw [if_pos hb] at hk; exact ⟨33,c,rfl,hk⟩
  · rw [if_neg hb] at hk; refine ⟨b,c,?_,hk⟩; simp only [zsa,zsc,m5,bS,bB,deskM,Ab.look] at hl ⊢
    repeat' split at hl
    all_goals first | (subst_vars; rfl) | exact absurd rfl hb | cases hl)
 have g3:=g2.trim [1,2,6,20,21,22] [300,301,302,303]; have e3:trim [1,2,6,20,21,22] [300,301,302,303] ⟨tH s ev i,[bS s,bB (fun i=>if i=k then some ⟨g,0,none⟩ else x i)]++deskM (desk0 l)⟩=stH s ev (fun i=>if i=k then some ⟨g,0,none⟩ else x i) i:=by kernel_rfl
 rw [e3] at g3
 have o3:=o2.away (i:=k) (md:=deskM (desk0 l)) (L':=Ab.look [bS s,bB (fun i=>if i=k then some ⟨g,0,none⟩ else x i)]) g2 (fun b ent hb=>by
   simp only [zsa,zsc,bS,bB,deskM,Ab.look] at hb ⊢
   repeat' split at hb
   all_goals first | (subst_vars; simp at hb; done) | (subst_vars; simpa using hb) | cases hb) (zBp (by kernel_rfl)) (fun b hb=>by
   simp only [deskM,Ab.look] at hb
   repeat' split at hb
   all_goals first | omega | cases hb) (fun b hb=>by
   simp only [bS,bB,Ab.look] at hb
   repeat' split at hb
   all_goals first | (subst_vars; exact ⟨rfl,fun h=>by cases h⟩) | cases hb)
 have e4:(fun j=>if j=k then some (deskM (desk0 l)) else mems ds j)=mems (upd ds k (desk0 l)):=by funext j; simp only [mems,upd]; split <;> rfl
 rw [e4] at o3; refine ⟨_,_,⟨S,_,g3,o3⟩,fun j hj=>?_⟩; simp only [upd]; by_cases hjk:j=k
 · simp only [if_pos hjk]; exact ⟨g,c,by simpa using hκ,rfl⟩
 · simp only [if_neg hjk]; exact hp j hj
theorem zuX {M:Nat→Option Mem} {κd:Nat→Kap} {st:St} (h:Now w0 S0 κ0 K N M κd st a w) {k:Nat} {n:Int} (hk:get st.t k=I n):cnt a k=n.toNat:=by obtain ⟨S,κ,h1,_⟩:=h; have:=h1.slots k; rw [hk] at this; unfold cnt; rw [this.v_inv]
theorem wk_markers {s:zaz} {ev:List zab} (hm:∀ m∈s.Markers,0≤m.ID∧m.ID < 100) (hlen:s.Markers.length < 1000000) {κd0:Nat→Kap}
  (h:Now w0 S0 κ0 K zaE.fn.ntmps (fun _=>none) κd0 (stH s ev (fun _=>none) 0) a w) {Q:Exit→Act→World→Prop}
  (hQ:∀ a' w' κd x,Now w0 S0 κ0 K zaE.fn.ntmps (mems (seats s.Markers)) κd (stH s ev x s.Markers.length) a' w'→Points (seats s.Markers) κd x→Q .normal a' w'):(Code.block 0 (.loop (.seq (.region 3 (wkO 3) (wkD 3)) (.seq (.cond (.tmp 23) .skip (.exit 0)) (.seq (.block 1 (.seq (.region 4 (wkO 4) (wkD 4)) (.region 5 (wkO 5) (wkD 5)))) (.region 6 (wkO 6) (wkD 6))))))).wp zaE.P Q a w:=by
 refine wp_block (wp_loop (fun a w=>∃ k κd x,k≤s.Markers.length∧Now w0 S0 κ0 K zaE.fn.ntmps (mems (seats (s.Markers.take k))) κd (stH s ev x k) a w∧Points (seats (s.Markers.take k)) κd x)
  (fun a _=>s.Markers.length - cnt a 22) ⟨0,κd0,_,zkD _,h,fun _ _=>rfl⟩ ?_)
 rintro a w ⟨k,κd,x,hk,hn,hp⟩
 have hc0:cnt a 22=k:=by rw [zuX hn (n:=(k:Int)) rfl]; simp
 refine wp_seq (wkStep wk_r3 (w3 s ev x _ _) hn (fun a1 w1 h1=>?_)); refine wp_seq (wp_cond (h1.bool (b:=decide ((k:Int) < (List.map zaT s.Markers).length)) rfl) ?_); by_cases hlt:k < s.Markers.length
 · rw [decide_eq_true (by simp; omega),if_pos rfl]; refine wp_skip ?_; have h2:=h1.trim [1,2,6,20,21,22] [] (st':=stH s ev x k) (by kernel_rfl); refine wp_seq (wp_block (wp_seq ?_)); have ht4:=w4 s ev x ((List.map zaT s.Markers).length:Int) (k:Int); rw [cPQ,zes,show ((k:Int)).toNat=k from rfl,zaB hlt,zaX] at ht4; refine wkStep wk_r4 ht4 h2 (fun a3 w3 h3=>?_); obtain ⟨hm0,hm1⟩:=hm _ (zbi hlt); generalize hmk:s.Markers[k]=m at h3 hm0 hm1; obtain ⟨id,cen,lev,cap,ps⟩:=m; obtain ⟨q,rfl⟩:∃ q:Nat,id=(q:Int):=⟨id.toNat,by simp only at hm0; omega⟩
   have hq:q < 100:=by simp only at hm1; omega
   refine wkStep wk_r5 (w5 q hq s ev x _ _ cen lev cap ps) h3 (fun a4 w4 h4=>?_); obtain ⟨κd',x',h5,hp'⟩:=wk_new hq h4 hp; refine wkStep wk_r6 (w6 s ev x' _ _) h5 (fun a6 w6 h6=>?_); rw [w6Q] at h6
   have e:seats (s.Markers.take (k+1))=upd (seats (s.Markers.take k)) q (desk0 lev):=by rw [aLiAs136 hlt,hmk]; simp [seats]
   refine ⟨⟨k+1,κd',x',hlt,by rw [e]; exact_mod_cast h6,by rw [e]; exact hp'⟩,?_⟩; have:cnt a6 22=k+1:=by rw [zuX h6 (n:=(k:Int)+1) rfl]; omega
   show s.Markers.length - cnt a6 22 < s.Markers.length - cnt a 22; omega
 · rw [decide_eq_false (by simp; omega),iNs]; refine wp_exit ?_; have hkl:k=s.Markers.length:=by omega
   subst hkl; rw [zjV] at h1 hp; exact hQ _ _ _ _ (h1.trim [1,2,6,20,21,22] [] (by kernel_rfl)) hp
end
end
set_option maxRecDepth 100000
noncomputable section
def rows (x:Nat→Option Addr):List (List AV):=(List.range 100).map fun i=>[.v (.pointer (x i))]
theorem znQ (x:Nat→Option Addr) (j:Nat) (hj:j < 100):(rows x)[j]?=some [.v (.pointer (x j))]:=by unfold rows; rw [zcW,znf hj]; rfl
abbrev bA (x:Nat→Option Addr):Nat×Ent:=(18,⟨1,zaC,rows x,false⟩)
abbrev bR (R:List (zay×zaM)):Nat×Ent:=(37,⟨0,zap,List.map zal R,false⟩)
abbrev bE (e:zab):Nat×Ent:=(11,⟨9,zac,[zaa e],true⟩)
abbrev bD (sd:GSeed):Nat×Ent:=(15,⟨2,zda,[zch sd],true⟩)
section
variable {w0:World} {S0:Nat→Prop} {κ0:Kap} {K:Nat→Prop} {N:Nat} {a:Act} {w:World}
theorem wk_toRow {s:zaz} {ev:List zab} {x:Nat→Option Addr} {M:Nat→Option Mem} {κd:Nat→Kap} {i:Int} (h:Now w0 S0 κ0 K N M κd (stH s ev x i) a w):Now w0 S0 κ0 K N M κd ⟨[(1,AV.sl 9 (List.map zaa ev)),(2,AV.loc 2 9 0 0),(6,.loc 18 1 0 0)],[bS s,bA x]⟩ a w:=by
 obtain ⟨S,κ,hg,ho⟩:=h
 have h18:∃ g c,κ 18=some (g,c):=by
  have hE:=hg.ents 18 _ rfl
  cases hq:κ 18 with
  | some gc=>exact ⟨gc.1,gc.2,rfl⟩
  | none=>rw [hq] at hE; have:=(hE.1 (.inl rfl)).2.2; cases this
 obtain ⟨g,c,hκ⟩:=h18; have hE:=hg.ents 18 _ rfl; rw [hκ] at hE
 have h6:a.tmps.getD 6 undef=.pointer (some ⟨g,0,none⟩):=by obtain ⟨g',c',_,hk',e⟩:=(show VRel _ _ _ _ (.loc 18 100 0 0) _ from hg.slots 6).loc_inv; rw [hκ] at hk'; injection hk' with hk'; injection hk' with e1 _; subst e1; simpa using e
 have hl:(cells x).length=100:=by unfold cells; simp
 have hrow:=toRow hE (by unfold maxLen; omega) (xs:=rows x) (by rw [hl]; unfold rows; simp) (fun j y u hj hv=>by
  have hj':j < 100:=by rw [← hl]; exact (zbu.1 hj).1
  rw [zt8 x j hj'] at hj; injection hj with hj; subst hj
  rw [hv.v_inv,znQ x j hj'])
 have g1:=hg.swap (B:=18) (c2:=100) rfl (by omega) hκ hrow; have o1:=ho.swap (B:=18) (c2:=100) (e2:=⟨1,zaC,rows x,false⟩) rfl hκ
 have g2:=g1.set 6 (.loc 18 1 0 0) (by
  rw [h6]; have:=VRel.loc (S:=S) (κ:=overK κ (fun _=>some (g,100)) (Ab.look [(18,⟨1,zaC,rows x,false⟩)])) (D:=fun b=>(Ab.look ((18,⟨1,zaC,rows x,false⟩) :: (del 18 (stH s ev x i)).m) b).isSome=true) (w:=w) 18 1 0 0 g 100 (by simp [Ab.look]) (by unfold overK; simp [Ab.look])
  simpa using this)
 exact Now.trim ⟨S,_,g2,o1⟩ [1,2,6] [] (by kernel_rfl)
abbrev e0D (d:zah):Ent:=⟨14,za8,[[I d.level,.row 301 10 0 ((List.map zak d.marks).length),I d.period,I d.started.Time,I d.started.Source,I d.started.Seq,.map 302,AV.sl 1 (List.map nBool d.watch.Last),B d.watch.Suspended,I d.good.Time,I d.good.Source,I d.good.Seq,B d.some,.row 303 12 0 ((List.map zag d.suspensions).length)]],true⟩
abbrev mrD (d:zah):Mem:=[(301,⟨10,za9,List.map zak d.marks,false⟩),(302,⟨0,zaK,List.map zau d.noted,false⟩),(303,⟨12,zas,List.map zag d.suspensions,false⟩)]
abbrev deskB (d:zah):Mem:=(1300,e0D d) :: mrD d
theorem zwU {d:zah} {b:Nat} (h:(Ab.look (mrD d) b).isSome=true):300 < b∧b < 304:=by
 simp only [mrD,Ab.look] at h
 repeat' split at h
 all_goals first | omega | cases h
theorem mrD_only (d:zah) (Bn b:Nat) (ent:Ent) (h:Ab.look ((Bn,e0D d) :: mrD d) b=some ent) (hbx:ent.box=true):∀ cs∈ent.es,∀ x∈cs,only ((mrD d).map (·.1)) x=true:=by
 simp only [mrD,Ab.look] at h
 repeat' split at h
 all_goals first | cases h | skip
 · have e:∀ cs∈(e0D d).es,∀ x∈cs,only ((mrD d).map (·.1)) x=true:=fun cs hcs x hx=>by simp only [e0D,zdf] at hcs; subst hcs; have:∀ x∈[I d.level,.row 301 10 0 ((List.map zak d.marks).length),I d.period,I d.started.Time,I d.started.Source,I d.started.Seq,.map 302,AV.sl 1 (List.map nBool d.watch.Last),B d.watch.Suspended,I d.good.Time,I d.good.Source,I d.good.Seq,B d.some,.row 303 12 0 ((List.map zag d.suspensions).length)],only [301,302,303] x=true:=zbR.1 (by kernel_rfl); exact this x hx
   exact e
 all_goals cases hbx
theorem wk_desk {j k0 i:Nat} {t:Tab} {m:Mem} {st1 st2 stN:St} {d d':zah} {x:Nat→Option Addr} {ds:Desks} {κd:Nat→Kap} (hr:regOf j wkC=some (.region j (wkO j) (wkD j)))
  (hn:Now w0 S0 κ0 K zaE.fn.ntmps (mems ds) κd ⟨t,m⟩ a w) (hp:Points ds κd x) (hi:i < 100) (hd:ds i=some d) (hk0:get t k0=.v (.pointer (x i))) (hm:∀ b,(Ab.look m b).isSome=true→b < 300)
  (ht:tReg0 zaE zT j ⟨(k0,.loc 1300 14 0 0) :: t,deskB d++m⟩=some st1) (h12:st2=st1∨(st2=renS 112 301 st1∧Ab.look st1.m 301=none))
  (hd':∀ b ent,Ab.look (deskB d') b=some ent→Ab.look st2.m b=some ent) (ks drop:List Nat) (e:trim ks drop st2=stN) (hN:∀ b,(Ab.look stN.m b).isSome=true→b < 300)
  {Q:Exit→Act→World→Prop} (hQ:∀ a' w' κd',Now w0 S0 κ0 K zaE.fn.ntmps (mems (upd ds i d')) κd' stN a' w'→Points (upd ds i d') κd' x→Q .normal a' w'):(Code.region j (wkO j) (wkD j)).wp zaE.P Q a w:=by
 obtain ⟨S,κ,hg,ho⟩:=hn; have hi':mems ds i=some ((300,e0D d) :: mrD d):=by simp [mems,hd]
 have hpi:=hp i hi; rw [hd] at hpi; obtain ⟨g,c,hκ,hx⟩:=hpi
 have hk0':a.tmps.getD k0 undef=.pointer (some ⟨g,0,none⟩):=by have:=hg.slots k0; rw [hk0,hx] at this; exact this.v_inv
 have hmr:∀ b,(Ab.look (mrD d) b).isSome=true→b < 1000∧b≠300∧Ab.look m b=none:=fun b hb=>by
  obtain ⟨q1,q2⟩:=zwU hb; refine ⟨by omega,by omega,?_⟩
  cases hq:Ab.look m b with
  | none=>rfl
  | some e=>have:=hm b (by simp [hq]); omega
 have hm':∀ b,(Ab.look m b).isSome=true→b < 1000:=fun b hb=>by have:=hm b hb; omega
 have h1:=hg.lend (B:=300) (ho.obj i _ hi') (fun b g c hb hk=>(ho.far i _ b g c hi' hb hk).1) hmr hm' (mrD_only d 300) (z:=14) hk0' hκ; refine zuF (zsA (C:=zaE.C) (A:=zaE.F)) wk_n (zBC wk_hb hr ht) ⟨S,_,h1⟩ ?_
 rintro a' w' ⟨S',κ1,hg1⟩
 have hg2:∃ κ2,GoodS w S (lentK κ (κd i) (mrD d) 300) (fun b=>(Ab.look (lentM (e0D d) (mrD d) m 300) b).isSome=true) zaE.fn.ntmps S' κ2 st2 a' w':=by
  rcases h12 with rfl | ⟨rfl,h301⟩
  · exact ⟨κ1,hg1⟩
  · exact ⟨_,GoodS.ren hg1 (by omega) (by omega) (by omega) h301⟩
 obtain ⟨κ2,hg2⟩:=hg2
 obtain ⟨r1,r2⟩:=lent_back (B:=300) (e0':=e0D d') (mr':=mrD d') hg ho hi' hmr hm' hg2 hd' (fun b hb=>by have:=zwU hb; omega) (mrD_only d' 1300) ks drop e (fun b hb=>by
  refine ⟨by rw [← e] at hb; exact zux ks drop st2 b hb,fun hq=>?_,by have:=hN b hb; omega⟩; have:=hN b hb; rcases look_two hq with h | h
  · omega
  · have:=zwU h; omega)
 have e4:(fun j=>if j=i then some ((300,e0D d') :: mrD d') else mems ds j)=mems (upd ds i d'):=by funext j; simp only [mems,upd]; split <;> rfl
 rw [e4] at r2; refine hQ _ _ _ ⟨S',_,r1,r2⟩ (fun j hj=>?_); simp only [upd]; by_cases hji:j=i
 · simp only [if_pos hji]; subst hji; exact ⟨g,c,by unfold homeK; simpa using hκ,hx⟩
 · simp only [if_neg hji]; exact hp j hj
end
end
set_option maxRecDepth 100000
noncomputable section
def zM (d:zah):Mem:=[(1000,⟨14,za8,[[I d.level,.row 900 10 0 ((List.map zak d.marks).length),I d.period,I d.started.Time,I d.started.Source,I d.started.Seq,.map 901,AV.sl 1 (List.map nBool d.watch.Last),B d.watch.Suspended,I d.good.Time,I d.good.Source,I d.good.Seq,B d.some,.row 902 12 0 ((List.map zag d.suspensions).length)]],true⟩),(900,⟨10,za9,List.map zak d.marks,false⟩),(901,⟨0,zaK,List.map zau d.noted,false⟩),(902,⟨12,zas,List.map zag d.suspensions,false⟩)]
structure Legs (s:zaz) where
 rein:zaM→zah→zah
 note:zaG→GSeed→zab→zah→zah
 fit:zab→Option Nat
 seed:Int→Option GSeed
 ok:zab→Prop
 D:Nat→zah→Prop
 ranges:∀ e,ok e→(0≤e.Marker∧e.Marker < 100)∧0≤e.Stamp.Source∧e.Stamp.Source < 100
 D0:∀ l,D 0 (desk0 l)
 Dup:∀ k d,D k d→D (k+1) d
 Dlen:∀ k d,D k d→d.marks.length≤k
 Drein:∀ k d e,ok e→D k d→D (k+1) (rein e.Stamp d)
 Dnote:∀ k d p sd e,ok e→D k d→D (k+1) (note p sd e d)
 Dapp:∀ k d e,ok e→D k d→D (k+1) { d with marks:=d.marks++[⟨e,d.watch.Suspended⟩] }
 fit_lt:∀ e q,fit e=some q→q < s.Papers.length
 cRein:∀ k d e,k < 1000000→ok e→D k d→cw zeQ [.loc 1000 14 0 0,.agg (zbD e.Stamp)] (zM d)=some (zbQ (rein e.Stamp d))
 cNote:∀ k d p sd e,k < 1000000→ok e→D k d→p∈s.Papers→(∃ q,fit e=some q∧s.Papers[q]?=some p)→seed e.Script=some sd→cw zgx [.loc 1000 14 0 0,.agg (zaq s),.agg (zaJ p),.agg (zch sd),.agg (zaa e)] (zM d)=some (zbQ (note p sd e d))
 cFits:∀ x e,ok e→cw zf3 [.fa 1 (rows x),.agg (zaq s),.agg (zaa e)] []=some (zeX (match x e.Stamp.Source.toNat,fit e with
  | some p,some q=>((q:Int),some p)
  | _,_=>(0,none)))
 cSeed:∀ n,cw zin [.agg (zaq s),I n] []=some (zgo ((seed n).getD ⟨0,[]⟩,(seed n).isSome))
def evG {s:zaz} (g:Legs s) (st:Desks×Reop) (e:zab):Desks×Reop:=
 if e.Kind=1 then (match st.1 e.Marker.toNat with
  | some d=>(upd st.1 e.Marker.toNat (g.rein e.Stamp d),st.2)
  | none=>st)
 else if e.Kind=2 then (st.1,mput ⟨e.Script,e.Part⟩ e.Stamp st.2)
 else if e.Kind=0 then (match st.1 e.Stamp.Source.toNat,g.fit e with
  | some d,some q=>(match g.seed e.Script,s.Papers[q]? with
    | some sd,some p=>(upd st.1 e.Stamp.Source.toNat (g.note p sd e d),st.2)
    | none,_=>(upd st.1 e.Stamp.Source.toNat { d with marks:=d.marks++[⟨e,d.watch.Suspended⟩] },st.2)
    | _,_=>st)
  | _,_=>st)
 else st
abbrev tE (ev:List zab) (i:Int):Tab:=[(2,AV.loc 2 9 0 0),(6,AV.loc 18 1 0 0),(9,AV.map 37),(38,AV.sl 9 (List.map zaa ev)),(39,I ((List.map zaa ev).length:Int)),(40,I i)]
abbrev stE (s:zaz) (ev:List zab) (x:Nat→Option Addr) (R:Reop) (i:Int):St:=⟨tE ev i,[bS s,bA x,bR R]⟩
section
variable {w0:World} {S0:Nat→Prop} {κ0:Kap} {K:Nat→Prop} {a:Act} {w:World}
theorem ziJ {m:Mem} (h:m.all (fun p=>decide (p.1 < 300))=true):∀ b,(Ab.look m b).isSome=true→b < 300:=fun b hb=>by obtain ⟨ent,he⟩:=zb3.1 hb; have:=zbR.1 h (b,ent) (ziv he); simpa using this
theorem wk_event {s:zaz} {ev:List zab} (g:Legs s) {k:Nat} {ds:Desks} {R:Reop} {x:Nat→Option Addr} {κd:Nat→Kap} (hk:k < ev.length) (hok:g.ok ev[k]) (hev:ev.length < 1000000)
  (h:Now w0 S0 κ0 K zaE.fn.ntmps (mems ds) κd (stE s ev x R k) a w) (hp:Points ds κd x) (hD:∀ i d,ds i=some d→g.D k d) {Q:Exit→Act→World→Prop}
  (hQ:∀ a' w' κd',Now w0 S0 κ0 K zaE.fn.ntmps (mems (evG g (ds,R) ev[k]).1) κd' (stE s ev x (evG g (ds,R) ev[k]).2 k) a' w'→Points (evG g (ds,R) ev[k]).1 κd' x→Q .normal a' w'):(Code.block 3 (.seq (.region 10 (wkO 10) (wkD 10)) (.seq (.region 11 (wkO 11) (wkD 11)) (.block 4 (.seq (.region 12 (wkO 12) (wkD 12)) (.cond (.tmp 46) (.seq (.region 13 (wkO 13) (wkD 13)) (.seq (.region 14 (wkO 14) (wkD 14)) (.cond (.tmp 55) (.region 15 (wkO 15) (wkD 15)) .skip))) (.seq (.region 16 (wkO 16) (wkD 16)) (.cond (.tmp 60) (.region 17 (wkO 17) (wkD 17)) (.seq (.region 18 (wkO 18) (wkD 18)) (.cond (.tmp 70) (.seq (.region 19 (wkO 19) (wkD 19)) (.seq (.seq (.region 20 (wkO 20) (wkD 20)) (.cond (.tmp 80) (.exit 3) .skip)) (.seq (.region 21 (wkO 21) (wkD 21)) (.seq (.region 22 (wkO 22) (wkD 22)) (.cond (.tmp 88) (.region 23 (wkO 23) (wkD 23)) (.region 24 (wkO 24) (wkD 24))))))) .skip)))))))))).wp zaE.P Q a w:=by
 refine wp_block (wp_seq ?_); have ht:=w10 s ev (rows x) (List.map zal R) ((List.map zaa ev).length:Int) (k:Int); rw [cPQ,zbJ,show ((k:Int)).toNat=k from rfl,zaB hk,zaX] at ht; refine wkStep wk_r10 ht h (fun a1 w1 h1=>?_); obtain ⟨⟨hm0,hm1⟩,hs0,hs1⟩:=g.ranges _ hok; generalize ev[k]=e at h1 hok hQ hm0 hm1 hs0 hs1; refine wp_seq (wkStep wk_r11 (w11 s ev _ _ _ _ e) h1 (fun a2 w2 h2=>?_)); refine wp_block (wp_seq (wkStep wk_r12 (w12 s ev _ _ _ _ e) h2 (fun a3 w3 h3=>?_))); refine wp_cond (h3.bool (b:=e.Kind == 1) rfl) ?_; by_cases k1:e.Kind=1
 ·
  rw [if_pos (by simp [k1])]; have h4:=h3.trim [2,6,9,11,38,39,40] [] (st':=⟨[(2,AV.loc 2 9 0 0),(6,AV.loc 18 1 0 0),(9,AV.map 37),(11,AV.loc 11 9 0 0),(38,AV.sl 9 (List.map zaa ev)),(39,I ((List.map zaa ev).length:Int)),(40,I k)],[bS s,bE e,bA x,bR R]⟩) (by kernel_rfl); have ht13:=w13 s ev (rows x) (List.map zal R) ((List.map zaa ev).length:Int) (k:Int) e; have hi:e.Marker.toNat < 100:=by omega
  have hrow:=znQ x (0+e.Marker.toNat) (by omega); rw [zbO] at hrow; rw [zan hm0,zan (by simpa using hm1),zbO] at ht13; have hpi:=hp _ hi
  cases hdi:ds e.Marker.toNat with
  | none =>
    rw [hdi] at hpi; rw [hpi] at hrow; rw [zqu hrow] at ht13; refine wp_seq (wkStep wk_r13 ht13 h4 (fun a5 w5 h5=>?_)); refine wp_seq (wkStep wk_r14 (w14n s ev _ _ _ _ e) h5 (fun a6 w6 h6=>?_)); refine wp_cond (h6.bool (b:=false) rfl) ?_; rw [iNs]; refine wp_skip ?_; have h7:=h6.trim [2,6,9,38,39,40] [11] (st':=stE s ev x R k) (by kernel_rfl)
    have e1:evG g (ds,R) e=(ds,R):=by unfold evG; rw [if_pos k1]; simp only [hdi]
    rw [e1] at hQ; exact hQ _ _ _ h7 hp
  | some d =>
    have hpi':=hpi; rw [hdi] at hpi; obtain ⟨g1,c1,hκ,hx⟩:=hpi; rw [hx] at hrow; rw [zyN hrow] at ht13; refine wp_seq (wkStep wk_r13 ht13 h4 (fun a5 w5 h5=>?_)); refine wp_seq (wkStep wk_r14 (w14p s ev _ _ _ _ e _) h5 (fun a6 w6 h6=>?_)); refine wp_cond (h6.bool (b:=true) rfl) ?_; rw [if_pos rfl]; have h7:=h6.trim [2,6,9,11,12,38,39,40] [] (st':=⟨[(2,AV.loc 2 9 0 0),(6,AV.loc 18 1 0 0),(9,AV.map 37),(11,AV.loc 11 9 0 0),(12,AV.v (.pointer (some ⟨g1,0,none⟩))),(38,AV.sl 9 (List.map zaa ev)),(39,I ((List.map zaa ev).length:Int)),(40,I k)],[bS s,bE e,bA x,bR R]⟩) (by kernel_rfl); have ht15:=w15 s ev (rows x) (List.map zal R) ((List.map zaa ev).length:Int) (k:Int) e ⟨g1,0,none⟩ d; rw [zan rfl,zan rfl] at ht15; have hc:=g.cRein k d e (by omega) hok (hD _ d hdi); unfold zM at hc; rw [hc,zfn] at ht15; refine wk_desk (k0:=12) wk_r15 h7 hp hi hdi (by rw [hx]; rfl) (ziJ (by kernel_rfl)) ht15 (.inl rfl) (d':=g.rein e.Stamp d) (fun b ent hb=>?_) [2,6,9,38,39,40] [11,1300,301,302,303] (stN:=stE s ev x R k) (by kernel_rfl) (ziJ (by kernel_rfl)) (fun a8 w8 κd8 h8 hp8=>?_)
    · simp only [deskB,mrD,e0D,Ab.look] at hb ⊢
      repeat' split at hb
      all_goals first | (subst_vars; simp at hb; done) | (subst_vars; simpa using hb) | cases hb
    · have e1:evG g (ds,R) e=(upd ds e.Marker.toNat (g.rein e.Stamp d),R):=by unfold evG; rw [if_pos k1]; simp only [hdi]
      rw [e1] at hQ; exact hQ _ _ _ h8 hp8
 rw [if_neg (by simpa using k1)]; have h4:=h3.trim [2,6,9,11,38,39,40,45] [] (st':=⟨[(2,AV.loc 2 9 0 0),(6,AV.loc 18 1 0 0),(9,AV.map 37),(11,AV.loc 11 9 0 0),(38,AV.sl 9 (List.map zaa ev)),(39,I ((List.map zaa ev).length:Int)),(40,I k),(45,I e.Kind)],[bS s,bE e,bA x,bR R]⟩) (by kernel_rfl); refine wp_seq (wkStep wk_r16 (w16 s ev _ _ _ _ e) h4 (fun a5 w5 h5=>?_)); refine wp_cond (h5.bool (b:=e.Kind == 2) rfl) ?_; by_cases k2:e.Kind=2
 ·
  rw [if_pos (by simp [k2])]; have h6:=h5.trim [2,6,9,11,38,39,40] [] (st':=⟨[(2,AV.loc 2 9 0 0),(6,AV.loc 18 1 0 0),(9,AV.map 37),(11,AV.loc 11 9 0 0),(38,AV.sl 9 (List.map zaa ev)),(39,I ((List.map zaa ev).length:Int)),(40,I k)],[bS s,bE e,bA x,bR R]⟩) (by kernel_rfl); have ht17:=w17 s ev (rows x) R ((List.map zaa ev).length:Int) (k:Int) e; rw [zm7] at ht17; refine wkStep wk_r17 ht17 h6 (fun a7 w7 h7=>?_)
  have e1:evG g (ds,R) e=(ds,mput ⟨e.Script,e.Part⟩ e.Stamp R):=by unfold evG; rw [if_neg k1,if_pos k2]
  rw [e1] at hQ; exact hQ _ _ _ (h7.trim [2,6,9,38,39,40] [11] (by kernel_rfl)) hp
 rw [if_neg (by simpa using k2)]; have h6:=h5.trim [2,6,9,11,38,39,40,45] [] (st':=⟨[(2,AV.loc 2 9 0 0),(6,AV.loc 18 1 0 0),(9,AV.map 37),(11,AV.loc 11 9 0 0),(38,AV.sl 9 (List.map zaa ev)),(39,I ((List.map zaa ev).length:Int)),(40,I k),(45,I e.Kind)],[bS s,bE e,bA x,bR R]⟩) (by kernel_rfl); refine wp_seq (wkStep wk_r18 (w18 s ev _ _ _ _ e) h6 (fun a7 w7 h7=>?_)); refine wp_cond (h7.bool (b:=e.Kind == 0) rfl) ?_; by_cases k3:¬ e.Kind=0
 ·
  rw [if_neg (by simpa using k3)]; refine wp_skip ?_
  have e1:evG g (ds,R) e=(ds,R):=by unfold evG; rw [if_neg k1,if_neg k2,if_neg k3]
  rw [e1] at hQ; exact hQ _ _ _ (h7.trim [2,6,9,38,39,40] [11] (by kernel_rfl)) hp
 replace k3:=Decidable.not_not.1 k3; rw [if_pos (by simp [k3])]; have h8:=h7.trim [2,6,9,11,38,39,40] [] (st':=⟨[(2,AV.loc 2 9 0 0),(6,AV.loc 18 1 0 0),(9,AV.map 37),(11,AV.loc 11 9 0 0),(38,AV.sl 9 (List.map zaa ev)),(39,I ((List.map zaa ev).length:Int)),(40,I k)],[bS s,bE e,bA x,bR R]⟩) (by kernel_rfl); have ht19:=w19 s ev (rows x) (List.map zal R) ((List.map zaa ev).length:Int) (k:Int) e; rw [zan (by unfold rows; simp),g.cFits x e hok,zpQ] at ht19; have hi:e.Stamp.Source.toNat < 100:=by omega
 have hpi:=hp _ hi
 have noDesk:(x e.Stamp.Source.toNat=none∨g.fit e=none)→(Code.seq (.region 19 (wkO 19) (wkD 19)) (.seq (.seq (.region 20 (wkO 20) (wkD 20)) (.cond (.tmp 80) (.exit 3) .skip)) (.seq (.region 21 (wkO 21) (wkD 21)) (.seq (.region 22 (wkO 22) (wkD 22)) (.cond (.tmp 88) (.region 23 (wkO 23) (wkD 23)) (.region 24 (wkO 24) (wkD 24))))))).wp zaE.P (Exit.inBlock 4 (Exit.inBlock 3 Q)) a7 w7:=by
  intro hno
  have e0:(match x e.Stamp.Source.toNat,g.fit e with
   | some p,some q=>((q:Int),some p)
   | _,_=>((0:Int),none))=((0:Int),(none:Option Addr)):=by
   rcases hno with q | q
   · rw [q]
   · rw [q]; cases x e.Stamp.Source.toNat <;> rfl
  rw [e0] at ht19; refine wp_seq (wkStep wk_r19 ht19 h8 (fun a9 w9 h9=>?_)); refine wp_seq (wp_seq (wkStep wk_r20 (w20n s ev _ _ _ _ e 0) h9 (fun a10 w10 h10=>?_))); refine wp_cond (h10.bool (b:=true) rfl) ?_; rw [if_pos rfl]; refine wp_exit ?_
  have e1:evG g (ds,R) e=(ds,R):=by
   unfold evG; rw [if_neg k1,if_neg k2,if_pos k3]; rcases hno with q | q
   · have:ds e.Stamp.Source.toNat=none:=by
      cases hq:ds e.Stamp.Source.toNat with
      | none=>rfl
      | some d=>rw [hq] at hpi; obtain ⟨_,_,_,hx⟩:=hpi; rw [q] at hx; cases hx
     simp only [this]
   · simp only [q]; cases ds e.Stamp.Source.toNat <;> rfl
  rw [e1] at hQ; exact hQ _ _ _ (h10.trim [2,6,9,38,39,40] [11] (by kernel_rfl)) hp
 cases hdi:ds e.Stamp.Source.toNat with
 | none=>rw [hdi] at hpi; exact noDesk (.inl hpi)
 | some d =>
   cases hf:g.fit e with
   | none=>exact noDesk (.inr hf)
   | some q =>
     rw [hdi] at hpi; obtain ⟨g1,c1,hκ,hx⟩:=hpi; rw [hx,hf] at ht19; refine wp_seq (wkStep wk_r19 ht19 h8 (fun a9 w9 h9=>?_)); refine wp_seq (wp_seq (wkStep wk_r20 (w20p s ev _ _ _ _ e q ⟨g1,0,none⟩) h9 (fun a10 w10 h10=>?_))); refine wp_cond (h10.bool (b:=false) rfl) ?_; rw [iNs]; refine wp_skip ?_; have h11:=h10.trim [2,6,9,11,13,14,38,39,40] [] (st':=⟨[(2,AV.loc 2 9 0 0),(6,AV.loc 18 1 0 0),(9,AV.map 37),(11,AV.loc 11 9 0 0),(13,I q),(14,AV.v (.pointer (some ⟨g1,0,none⟩))),(38,AV.sl 9 (List.map zaa ev)),(39,I ((List.map zaa ev).length:Int)),(40,I k)],[bS s,bE e,bA x,bR R]⟩) (by kernel_rfl); have ht21:=w21 s ev (rows x) (List.map zal R) ((List.map zaa ev).length:Int) (k:Int) e q ⟨g1,0,none⟩; rw [g.cSeed,zsx] at ht21; refine wp_seq (wkStep wk_r21 ht21 h11 (fun a12 w12 h12=>?_)); refine wp_seq (wkStep wk_r22 (w22 s ev _ _ _ _ e q ⟨g1,0,none⟩ _ _) h12 (fun a13 w13 h13=>?_)); refine wp_cond (h13.bool (b:=(g.seed e.Script).isSome) rfl) ?_; have h14:=h13.trim [2,6,9,11,13,14,15,38,39,40] [] (st':=⟨[(2,AV.loc 2 9 0 0),(6,AV.loc 18 1 0 0),(9,AV.map 37),(11,AV.loc 11 9 0 0),(13,I q),(14,AV.v (.pointer (some ⟨g1,0,none⟩))),(15,AV.loc 15 2 0 0),(38,AV.sl 9 (List.map zaa ev)),(39,I ((List.map zaa ev).length:Int)),(40,I k)],[bS s,bE e,bD ((g.seed e.Script).getD ⟨0,[]⟩),bA x,bR R]⟩) (by kernel_rfl); have hql:=g.fit_lt e q hf
     cases hsd:g.seed e.Script with
     | some sd =>
       rw [hsd] at h14; rw [if_pos (show (some sd).isSome=true from rfl)]; have ht23:=w23 s ev (rows x) (List.map zal R) ((List.map zaa ev).length:Int) (k:Int) e q ⟨g1,0,none⟩ sd d; rw [cPQ,zfI,show ((q:Int)).toNat=q from rfl,zaB hql,zaX,zan rfl,zan rfl] at ht23; have hc:=g.cNote k d s.Papers[q] sd e (by omega) hok (hD _ d hdi) (zbi hql) ⟨q,hf,zaB hql⟩ hsd; unfold zM at hc; rw [hc,zfn] at ht23; refine wk_desk (k0:=14) wk_r23 h14 hp hi hdi (by rw [hx]; rfl) (ziJ (by kernel_rfl)) ht23 (.inl rfl) (d':=g.note s.Papers[q] sd e d) (fun b ent hb=>?_) [2,6,9,38,39,40] [11,15,1300,301,302,303] (stN:=stE s ev x R k) (by kernel_rfl) (ziJ (by kernel_rfl)) (fun a8 w8 κd8 h8 hp8=>?_)
       · simp only [deskB,mrD,e0D,Ab.look] at hb ⊢
         repeat' split at hb
         all_goals first | (subst_vars; simp at hb; done) | (subst_vars; simpa using hb) | cases hb
       · have e1:evG g (ds,R) e=(upd ds e.Stamp.Source.toNat (g.note s.Papers[q] sd e d),R):=by unfold evG; rw [if_neg k1,if_neg k2,if_pos k3]; simp only [hdi,hf,hsd,zaB hql]
         rw [e1] at hQ; exact hQ _ _ _ h8 hp8
     | none =>
       rw [hsd] at h14; rw [iNs]; have ht24:=w24 s ev (rows x) (List.map zal R) ((List.map zaa ev).length:Int) (k:Int) e q ⟨g1,0,none⟩ ⟨0,[]⟩ d; have hdl:=g.Dlen _ _ (hD _ d hdi); rw [zan rfl,zan (by rw [zam]; omega)] at ht24; refine wk_desk (k0:=14) wk_r24 h14 hp hi hdi (by rw [hx]; rfl) (ziJ (by kernel_rfl)) ht24 (.inr ⟨rfl,by kernel_rfl⟩) (d':={ d with marks:=d.marks++[⟨e,d.watch.Suspended⟩] }) (fun b ent hb=>?_) [2,6,9,38,39,40] [11,15,1300,301,302,303] (stN:=stE s ev x R k) (by kernel_rfl) (ziJ (by kernel_rfl)) (fun a8 w8 κd8 h8 hp8=>?_)
       · have e2:List.map zak (d.marks++[⟨e,d.watch.Suspended⟩])=List.map zak d.marks++[zak ⟨e,d.watch.Suspended⟩]:=by simp
         simp only [deskB,mrD,e0D,Ab.look,e2] at hb ⊢
         repeat' split at hb
         all_goals first | (subst_vars; rw [← hb]; rfl) | cases hb
       · have e1:evG g (ds,R) e=(upd ds e.Stamp.Source.toNat { d with marks:=d.marks++[⟨e,d.watch.Suspended⟩] },R):=by unfold evG; rw [if_neg k1,if_neg k2,if_pos k3]; simp only [hdi,hf,hsd]
         rw [e1] at hQ; exact hQ _ _ _ h8 hp8
end
end
end Go.Proofs.YtikogkgdkdmljaaGreat
end
