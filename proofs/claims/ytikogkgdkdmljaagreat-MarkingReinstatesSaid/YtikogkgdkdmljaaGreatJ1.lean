/- The reference of the log of marks: sorting, what is disputed, the canonical list. -/
import Derived.Test.YtikogkgdkdmljaaGreatJ0
import Derived.Test.YtikogkgdkdmljaaGreatXAnn
import Derived.Test.YtikogkgdkdmljaaGreatAb10
import Derived.Control
set_option linter.unusedSimpArgs false
set_option linter.unusedVariables false
noncomputable section
namespace Go.Proofs.YtikogkgdkdmljaaGreat
open Go.Ab
theorem zqs {a b c:zaM} (h1:lessS b a=false) (h2:lessS c b=false):lessS c a=false:=by
 unfold lessS at *
 repeat' split at h1
 all_goals repeat' split at h2
 all_goals repeat' split
 all_goals simp only [decide_eq_false_iff_not] at *
 all_goals omega
theorem zvc (a b:zaM):lessS a b=false∨lessS b a=false:=by
 unfold lessS
 repeat' split
 all_goals simp only [decide_eq_false_iff_not]
 all_goals omega
open Classical in
theorem zlw {κ ν:Type} [DecidableEq κ] {k:κ} {v:ν}:∀ {l:List (κ×ν)} {p:κ×ν},p∈mput k v l→p=(k,v)∨p∈l
 | [],p,h=>by simpa [mput] using h
 | q :: r,p,h=>by
   unfold mput at h; split at h
   · rcases za1.1 h with h | h
     · exact Or.inl h
     · exact Or.inr (ze4 _ h)
   · rcases za1.1 h with h | h
     · exact Or.inr (by simp [h])
     · rcases zlw h with h | h
       · exact Or.inl h
       · exact Or.inr (ze4 _ h)
theorem zj2 {κ ν:Type} [DecidableEq κ] {k:κ}:∀ {l:List (κ×ν)} {v:ν},mfind k l=some v→(k,v)∈l
 | [],v,h=>by simp [mfind] at h
 | q :: r,v,h=>by
   unfold mfind at h; split at h
   · injection h with h; subst h; rename_i hk; subst hk; simp
   · exact ze4 _ (zj2 h)
def seedR:Option (Nat×GSeed)→List Int×Bool
 | some (_,y)=>(y.Marks,true)
 | none=>([],false)
theorem ztq (l:List GSeed) (n:Int) (hl:l.length≤1000000) (hm:∀ y∈l,y.Marks.length≤1000000):cw zjQ [.sl 2 (List.map zbU l),I n] []=some (zg0 (seedR (seedOf l n))):=by
 refine ztF l n ?_; refine zfK l (fun y=>y.Script == n) (fun i=>zfV l n i) (fun o=>zg0 (seedR o)) ?_ ?_ ?_
 · refine ziu _ _ _ ?_; simp (disch:=omega) only [zap,zaT,zb5,zbR,zbL]; rfl
 · intro i hi h; have:=hm _ (zbg hi); refine ziu _ _ _ ?_; simp (disch:=omega) only [zap,zaF,zan,za4,zni,zaC hi,zaY,h,zaI,zb5,zbR,zbL]; rw [zcN (by simp)]; rfl
 · intro i hi y h hk; refine ziu _ _ _ ?_; simp (disch:=omega) only [zap,zaF,zan,za4,zni,zaC hi,zaY,h,zaw,w64_id,hk]
def zAe:zaU:=⟨0,0,0,0,[]⟩
def zm4:Option (Nat×zaU)→zaU×Bool
 | some (_,y)=>(y,true)
 | none=>(zAe,false)
theorem zzz (l:List zaU) (n:Int) (hl:l.length≤1000000):cw zph [.sl 5 (List.map zaR l),I n] []=some (zhL (zm4 (zlv l n))):=by
 refine zzJ l n ?_; refine zfK l (fun y=>y.ID == n) (fun i=>zkq l n i) (fun o=>zhL (zm4 o)) ?_ ?_ ?_
 · refine znb _ _ _ ?_; simp (disch:=omega) only [zap,zaT]; rfl
 · intro i hi h; refine znb _ _ _ ?_; simp (disch:=omega) only [zap,zaF,zan,za4,zfJ,zaC hi,zaY,h,zaI]; rfl
 · intro i hi y h hk; refine znb _ _ _ ?_; simp (disch:=omega) only [zap,zaF,zan,za4,zfJ,zaC hi,zaY,h,zaw,w64_id,hk]
theorem zzA (m:zaU) (x:zaN) (hl:m.Papers.length≤1000000):cw zpi [.agg (zaR m),.agg (zaS x)] []=some (zam (dec (FitsM m x))):=by
 refine zzK m x ?_; have H:=any_bool m.Papers.length (fun j hj=>m.Papers[j]=x.Paper) (fun i=>zkr m x i) (fun b=>zam (b && (m.Centre != x.Centre))) ?_ ?_ ?_
 · rw [H]; congr 2; rw [zoE]; simp only [zbK,zAo,FitsM,bne_iff_ne]; refine and_congr_left' ⟨fun ⟨j,hj,e⟩=>e▸zbg hj,fun h=>?_⟩; obtain ⟨j,hj,e⟩:=zh3.1 h; exact ⟨j,hj,e⟩
 · exact znc _ _ _ (by simp (disch:=omega) only [zap,zaT]; rfl)
 · intro i hi h; refine znc _ _ _ ?_; simp (disch:=omega) only [zap,zaF,zan,za4,zcO,zaC hi,zaY,show (m.Papers[i] == x.Paper)=true by simpa using h,zaI,zhb]; rfl
 · intro i hi y h hk; refine znc _ _ _ ?_; simp (disch:=omega) only [zap,zaF,zan,za4,zcO,zaC hi,zaY,show (m.Papers[i] == x.Paper)=false by simpa using h,zaw,w64_id,hk]
theorem zvX (l:List zaU) (n:Int) (x:zaN) (hl:l.length≤1000000) (hm:∀ m∈l,m.Papers.length≤1000000):cw zlt [.sl 5 (List.map zaR l),I n,.agg (zaS x)] []=some (zam (dec (Elig l n x))):=by
 refine zv9 l n x ?_; simp only [zzz l n hl,zpc]
 cases h:zlv l n with
 | none=>simp only [zm4,zaw]; rw [zbG (by rintro ⟨k,m,h2,_⟩; rw [h] at h2; cases h2)]; rfl
 | some q=>obtain ⟨k,m⟩:=q; have hmem:=zbP (fnd_at h).1; simp only [zm4,zaI,zzA m x (hm m hmem),zai]; rw [show dec (Elig l n x)=dec (FitsM m x) from zkl ⟨by rintro ⟨k',m',h2,h3⟩; rw [h] at h2; cases h2; exact h3,fun h3=>⟨k,m,h,h3⟩⟩]; rfl
set_option maxRecDepth 10000
def cmpI (a b:Int):Int:=if a < b then -1 else if b < a then 1 else 0
theorem c_isNaN (a:Int):cw zjg [I a] []=some (zam false):=by refine zw3 a ?_; simp; rfl
theorem c_cmp (a b:Int):cw zdo [I a,I b] []=some (zbf (cmpI a b)):=by
 refine zuH a b ?_; rw [c_isNaN a,zai,c_isNaN b,zai,zaw,zaw,zaV,zaV]; unfold cmpI; split
 · rfl
 · split <;> rfl
def ziW:List Int→Int
 | []=>0
 | x :: r=>if x=0 then ziW r else x
theorem c_Or (l:List Int) (hl:l.length≤1000000):cw zl8 [.sl 1 (List.map zak l)] []=some (zbf (ziW l)):=by
 refine zzF l ?_; refine range_ind l (fun i r=>zkp l (i:Nat)=some (zbf (ziW r))) ?_ ?_
 · refine zrp l _ ?_; rw [zap,zaV,iNQ]; rfl
 · intro i x r hi hx hr ih; refine zrp l _ ?_; rw [zap,zaV,iPQ,cPQ,za4,zcO,zaC hi,zaY,hx,w6Q]; by_cases h0:x=0
   · subst h0; simpa [ziW] using ih
   · simp only [h0,ziW,if_false,show (x != 0)=true from by simpa using h0,zaI]; rfl
def cmpS (a b:zaM):Int:=ziW [cmpI a.Time b.Time,cmpI a.Source b.Source,cmpI a.Seq b.Seq]
theorem zqX (a b:zaM):cw zeC [.agg (zbI a),.agg (zbI b)] []=some (zbf (cmpS a b)):=by refine zxc a b ?_; rw [c_cmp _ _,za0,c_cmp _ _,za0,c_cmp _ _,za0,c_Or _ (by simp),za0]; rfl
theorem zpd (a b:zaM):decide (0 < cmpS a b)=lessS b a:=by
 unfold cmpS cmpI lessS; simp only [ziW]
 repeat' split
 all_goals first | omega | (simp_all; done) | (simp_all; omega) | (simp; omega)
theorem cmpS_le (a b:zaM):decide (cmpS a b≤0)=!lessS b a:=by rw [← zpd]; simp only [← decide_not,Int.not_lt]
theorem cmpS_neg (a b:zaM):decide (cmpS a b < 0)=lessS a b:=by
 unfold cmpS cmpI lessS; simp only [ziW]
 repeat' split
 all_goals first | omega | (simp_all; done) | (simp_all; omega) | (simp; omega)
theorem c_Equal (a b:List Int) (hl:a.length≤1000000):cw zfm [.sl 1 (List.map zak a),.sl 1 (List.map zak b)] []=some (zam (dec (a=b))):=by
 refine zqk a b ?_; by_cases h:a.length=b.length
 · simp only [zap,h,bne_self_eq_false,zaw]; have H:=zln a.length (fun j hj=>a[j]=b[j]'(by omega)) (fun i=>zeG a b i) zam ?_ ?_ ?_
   · rw [H,zkl]; exact ⟨fun hh=>zoX h (fun i h1 h2=>hh i h1),fun hh=>by subst hh; intros; rfl⟩
   · exact zgk _ _ _ (by simp (disch:=omega) only [zap,zaT]; rfl)
   · intro i hi hn; refine zgk _ _ _ ?_; simp (disch:=omega) only [zap,zaF,zan,za4,zcO,zaC hi,zaC (show i < b.length by omega),zaY,show (a[i] != b[i]'(by omega))=true by simpa using hn,zaI]; rfl
   · intro i hi y hn hk; refine zgk _ _ _ ?_; simp (disch:=omega) only [zap,zaF,zan,za4,zcO,zaC hi,zaC (show i < b.length by omega),zaY,show (a[i] != b[i]'(by omega))=false by simpa using hn,zaw,w64_id,hk]
 · rw [zbG (fun hh=>h (by rw [hh]))]; simp only [zap,show ((a.length:Int) != (b.length:Int))=true by simp only [bne_iff_ne,ne_eq]; omega,zaI]; rfl
theorem zw0 {p:Prop} [Decidable p]:dec p=decide p:=by
 by_cases h:p
 · rw [zbE h,decide_eq_true h]
 · rw [zbG h,decide_eq_false h]
theorem c_idx_t (l:List Int) (hl:l.length≤1000000):cw zbY [.sl 1 (List.map zak l),.fn zcq []] []=some (zbf (match fnd (fun m=>decide (200 < m)) 0 l with | some (i,_)=>(i:Int) | none=>-1)):=by
 refine zmW l ?_; refine zfK l (fun m=>decide (200 < m)) (fun i=>zdz l i) (fun o=>zbf (match o with | some (i,_)=>(i:Int) | none=>-1)) ?_ ?_ ?_
 · exact zeN _ _ (by simp (disch:=omega) only [zap,zaT]; rfl)
 · intro i hi h; refine zeN _ _ ?_; simp (disch:=omega) only [zap,zaF,zan,za4,zcO,zaC hi,zaY]; rw [zl5 l[i] (y:=zam (decide (200 < l[i]))) rfl,zai,h,zaI]; rfl
 · intro i hi y h hk; refine zeN _ _ ?_; simp (disch:=omega) only [zap,zaF,zan,za4,zcO,zaC hi,zaY]; rw [zl5 l[i] (y:=zam (decide (200 < l[i]))) rfl,zai,h,zaw,w6Q]; exact hk
theorem zuk {α:Type} {p:α→Bool} {l:List α}:(fnd p 0 l).isSome=l.any p:=by
 cases h:fnd p 0 l with
 | none=>have:=zm2.1 h; symm; simp only [zrz,zmG]; intro x hx; simp [this x hx]
 | some q=>obtain ⟨i,x⟩:=q; obtain ⟨h1,h2,_⟩:=fnd_at h; simp only [zmH]; symm; exact zmI.2 ⟨x,zbP h1,h2⟩
theorem zzw (l:List Int) (hl:l.length≤1000000):cw zbJ [.sl 1 (List.map zak l),.fn zcq []] []=some (zam (l.any fun m=>decide (200 < m))):=by
 refine zlZ l ?_; rw [c_idx_t l hl,za0,← zuk]
 cases fnd (fun m=>decide (200 < m)) 0 l with
 | none=>rfl
 | some q=>simp; rfl
theorem zwU (l:List Int) (hl:l.length≤1000000):cw zgO [.sl 1 (List.map zak l)] []=some (zam (greatB l)):=by
 refine ztE l ?_; unfold greatB; rw [zzw l hl,zai,zap]; by_cases h:24 < l.length
 · rw [zaF (by omega)]; simp [h]; rfl
 · rw [zaT (by omega)]; simp [h]; rfl
theorem zwR (a b:Int) (ha:0≤a∧a≤1000000) (hb:0≤b∧b≤1000000):cw zgN [I a,I b] []=some (zbf (distI a b)):=by refine ztD a b ?_; rw [w6Q,w6Q]; rfl
theorem posI_bd {a:Int} (h:a≤200):0≤posI a∧posI a≤200:=by unfold posI; split <;> omega
theorem c_Good (r:za2) (hr:OkMon r) (a b:List Int) (ha:a.length≤1000000) (hb:b.length≤1000000):cw zmZ [.agg (zbD r),.sl 1 (List.map zak a),.sl 1 (List.map zak b)] []=some (zam (goodS r a b)):=by
 refine zxU r a b ?_; rw [zl4 _ hr,za0,show ((0:Int) != 0)=false from rfl,zaw,zwU a ha,zai,zwU b hb,zai,zap,zap]; unfold goodS; by_cases hl:a.length=b.length
 case neg=>rw [show ((a.length:Int) != (b.length:Int))=true by simp only [bne_iff_ne,ne_eq]; omega,zaI,show (a.length == b.length)=false by simpa using hl]; rfl
 rw [show ((a.length:Int) != (b.length:Int))=false by simp [hl],zaw,show (a.length == b.length)=true by simpa using hl]
 cases hga:greatB a with
 | true=>rfl
 | false =>
 cases hgb:greatB b with
 | true=>rfl
 | false =>
 rw [zaw,zaw]
 have small:∀ l:List Int,greatB l=false→l.length≤24∧∀ m∈l,m≤200:=fun l h=>by unfold greatB at h; simp only [Bool.or_eq_false_iff,decide_eq_false_iff_not,zmG,decide_eq_true_eq] at h; exact ⟨by omega,fun m hm=>by have:=h.2 m hm; omega⟩
 obtain ⟨sa1,sa2⟩:=small a hga; obtain ⟨sb1,sb2⟩:=small b hgb
 have key:∀ (n i:Nat) (x y:Int),i+n=a.length→0≤x∧x≤200*i→0≤y∧y≤200*i→zie r a b x y i=some (zam (zr7 r (a.drop i) (b.drop i) x y)):=by
  intro n
  induction n with
  | zero=>intro i x y hi hx hy; refine zpv _ _ _ _ _ _ ?_; rw [zap,zaT (by omega),zwR x y (by omega) (by omega),za0,zjG (by omega)]; rfl
  | succ n ih =>
    intro i x y hi hx hy; have h1:i < a.length:=by omega
    have h2:i < b.length:=by omega
    have p1:=posI_bd (sa2 _ (zbg h1)); have p2:=posI_bd (sb2 _ (zbg h2)); refine zpv _ _ _ _ _ _ ?_; rw [zf8 h1,zf8 h2]; simp (disch:=omega) only [zap,zaF,zan,za4,zcO,zaC h1,zaC h2,zaY]; rw [show (if (0:Int) > a[i] then 0 else a[i])=posI a[i] from rfl,show (if (0:Int) > b[i] then 0 else b[i])=posI b[i] from rfl,zwR _ _ (by omega) (by omega),za0,zaV]; unfold zr7; split
    · rfl
    · rw [w6Q,w6Q,w6Q]; exact ih (i+1) _ _ (by omega) (by omega) (by omega)
 exact key a.length 0 0 0 (by omega) (by omega) (by omega)
theorem zx6 (r:za2) (l:List Bool) (hl:l.length≤1000000):cw zhu [.agg (zbD r),.sl 1 (List.map nBool l)] []=some (zam (decide (r.Fails≤failsN l))):=by
 refine zuN r l ?_
 have key:∀ (n i:Nat) (x:Int),i+n=l.length→0≤x∧x≤i→ze2 r l x i=some (zam (decide (r.Fails≤x+failsN (l.drop i)))):=by
  intro n
  induction n with
  | zero=>intro i x hi hx; refine zmA _ _ _ _ ?_; rw [zap,zaT (by omega),zjG (by omega)]; rw [show x+failsN []=x by simp [failsN]]; rfl
  | succ n ih =>
    intro i x hi hx; have h1:i < l.length:=by omega
    refine zmA _ _ _ _ ?_; rw [zf8 h1]; simp (disch:=omega) only [zap,zaF,zan,za4,elemD_Bool,zaC h1,zaY]
    cases hb:l[i] with
    | true=>rw [zbO,zaw,w6Q]; have:=ih (i+1) x (by omega) (by omega); rw [show ((i:Int)+1)=((i+1:Nat):Int) by omega,this,show failsN (true :: List.drop (i+1) l)=failsN (List.drop (i+1) l) by simp [failsN]]
    | false =>
      rw [zcx,zaI,w6Q,w6Q]; have:=ih (i+1) (x+1) (by omega) (by omega); rw [show ((i:Int)+1)=((i+1:Nat):Int) by omega,this]
      have e:x+1+failsN (List.drop (i+1) l)=x+failsN (false :: List.drop (i+1) l):=by simp [failsN]; omega
      rw [e]
 have:=key l.length 0 0 (by omega) (by omega); simpa using this
theorem c_MValid (r:za2) (hr:OkMon r) (w:zcY) (hw:zqA r w):cw zme [.agg (zbD r),.agg (ziZ w)] []=some (zam true):=by have h1:=hw.1; have h2:=hr.2.2.1; refine zxa r w ?_; rw [zl4 _ hr,za0,show ((0:Int) == 0)=true from rfl,zaI,zap,zaF (by omega),zx6 r w.Last (by omega),zai,← hw.2]; simp; rfl
theorem c_CloneB (hok:CallOK zP (single zby zOrc)) (l:List Bool) (hl:l.length≤1000000):cw zby [.sl 1 (List.map nBool l)] []=some (zgh l):=zoK hok (by
 show (if (List.map nBool l).length≤100000000 then some (AV.new 1 zfi (List.map nBool l),([]:Mem)) else none)=_; rw [if_pos (by simp; omega)]
 rfl)
theorem c_CloneI (hok:CallOK zP (single zbt zOrc)) (l:List Int) (hl:l.length≤1000000):cw zbt [.sl 1 (List.map zak l)] []=some (zhl l):=zoK hok (by
 show (if (List.map zak l).length≤100000000 then some (AV.new 1 za3 (List.map zak l),([]:Mem)) else none)=_; rw [if_pos (by simp; omega)]
 rfl)
theorem c_Step (hok:CallOK zP (single zby zOrc)) (r:za2) (hr:OkMon r) (w:zcY) (hw:zqA r w) (b:Bool):cw zm0 [.agg (zbD r),.agg (ziZ w),B b] []=some (zkv (if w.Suspended then (⟨[],false⟩,8) else (stepW r w b,0))):=by
 have h1:=hw.1; have h2:=hr.2.2.1; refine zxV r w b ?_; rw [c_MValid r hr w hw,zai,zbO,zaw]
 cases hs:w.Suspended with
 | true=>rfl
 | false =>
 have hlen:(List.map nBool w.Last++[[AV.v (Go.Value.bool b)]]).length=w.Last.length+1:=by simp
 rw [zaw,c_CloneB hok _ (by omega),zmS,zan rfl,zan (by simp only [zap]; omega),zan rfl,hlen]
 have fin:∀ x2 x3:Nat,x2+x3=w.Last.length+1→(x3:Int)≤r.Window→(w.Last++[b]).drop x2=lastW r w b→zif r w b w.Last x2 x3=some (zkv (stepW r w b,0)):=by
  intro x2 x3 h3 h4 h5
  have e:List.take x3 (List.drop x2 (List.map nBool w.Last++[nBool b]))=List.map nBool (lastW r w b):=by rw [zel nBool,← List.map_drop,h5,zcN]; rw [← h5]; simp; omega
  have hle:(lastW r w b).length≤1000000:=by rw [← h5]; simp; omega
  refine zpw _ _ _ _ _ _ ?_; rw [zaT (by omega),zan (by rw [hlen]; omega),e,zx6 r _ hle,zai,zan (by rw [hlen]; omega),show List.take x3 (List.drop x2 (List.map nBool w.Last++[[B b]]))=List.map nBool (lastW r w b) from e]; rfl
 by_cases hc:r.Window < (w.Last.length:Int)+1
 · refine zpw _ _ _ _ _ _ ?_; rw [zaF (by omega),cPQ,cPQ,cPQ]; refine fin _ _ (by omega) (by omega) ?_; unfold lastW; rw [if_pos (by simp; omega)]; rfl
 · refine fin 0 _ (by omega) (by omega) ?_; unfold lastW; rw [if_neg (by simp; omega)]; rfl
theorem zAj (x:GPart) (v:Int):cw zjS [.agg (zaP x),I v] []=some (zam (permB x v)):=by
 refine ztH x v ?_; unfold permB; simp only [zgB,decide_eq_true_eq,beq_iff_eq]; by_cases h1:v=-1
 · rw [if_pos h1,if_pos h1]; rfl
 rw [if_neg h1,if_neg h1]; by_cases h2:x.Kind=2
 · rw [if_pos h2,if_pos h2]; by_cases h3:v=0
   · rw [if_pos h3,h3]; rfl
   · rw [if_neg h3,show (v == 0)=false by simpa using h3,zqN]; rfl
 rw [if_neg h2,if_neg h2]; split
 · rename_i h; rw [show decide (0≤v∧v≤x.Max)=decide (v≤x.Max) by simp [h]]; rfl
 · rename_i h; rw [show decide (0≤v∧v≤x.Max)=false by simp [h]]; rfl
theorem zAg (p:zaE) (c:zbr) (j:Nat) (x:GPart) (v:Int) (hs:Short c) (hok:zfI p c) (hx:p.Parts[j]?=some x):cw zjR [.agg (zaL p),.agg (zbX c),I j,I v] []=some (zam (permB x v)):=by obtain ⟨hj,hx⟩:=zbs.1 hx; refine ztG p c j v ?_; simp (disch:=omega) only [zhD p c hs,zai,zbE hok,zaI,zap,zaF,zan,za4,zfk,zaC hj,zaY,hx,zAj,zai]; rfl
theorem c_mayMark (m:zaU) (x:zaN) (hl:m.Papers.length≤1000000):cw zls [.agg (zaR m),.agg (zaS x)] []=some (zam (mayB m x)):=by
 refine zv6 m x ?_; unfold mayB; rw [zwO _ _ hl,zai]
 cases h:(m.Centre != x.Centre) with
 | true=>rw [zaI,zoY,zw0,List.elem_eq_contains.symm,List.elem_eq_mem]; rfl
 | false=>rw [zaw,zoZ]; rfl
theorem c_Find (hok:CallOK zP (single zbt zOrc)) (l:List zaU) (n:Int) (hl:l.length≤1000000) (hm:∀ m∈l,m.Papers.length≤1000000):cw znW [.sl 5 (List.map zaR l),I n] []=some (zhL (zm4 (zlv l n))):=by
 refine zyV l n ?_; refine zfK l (fun y=>y.ID == n) (fun i=>zjm l n i) (fun o=>zhL (zm4 o)) ?_ ?_ ?_
 · exact zmp _ _ _ (by simp (disch:=omega) only [zap,zaT]; rfl)
 · intro i hi h; refine zmp _ _ _ ?_; simp (disch:=omega) only [zap,zaF,zan,za4,zfJ,zaC hi,zaY,h,zaI]; rw [c_CloneI hok _ (hm _ (zbg hi)),ziB,zcN (by simp)]; rfl
 · intro i hi y h hk; refine zmp _ _ _ ?_; simp (disch:=omega) only [zap,zaF,zan,za4,zfJ,zaC hi,zaY,h,zaw,w64_id,hk]
theorem c_Eligible (hok:CallOK zP (single zbt zOrc)) (l:List zaU) (n:Int) (x:zaN) (hl:l.length≤1000000) (hm:∀ m∈l,m.Papers.length≤1000000):cw zkS [.sl 5 (List.map zaR l),I n,.agg (zaS x)] []=some (zam (eligB l n x)):=by
 refine zuK l n x ?_; rw [c_Find hok l n hl hm,zpc]; unfold eligB
 cases h:zlv l n with
 | none=>rfl
 | some q=>obtain ⟨k,m⟩:=q; have hmem:=zbP (fnd_at h).1; simp only [zm4,zaI,c_mayMark m x (hm m hmem),zai]; rfl
set_option maxRecDepth 100000
def cells (x:Nat→Option Addr):List AV:=(List.range 100).map fun i=>.v (.pointer (x i))
theorem w0 (s:zay) (ev:List zab):tReg zaD zT 0 ⟨[(0,AV.agg [AV.sl 5 (List.map zaR s.Markers),AV.sl 7 (List.map zaS s.Scripts),AV.sl 3 (List.map zaL s.Papers),AV.sl 2 (List.map zbX s.Schemes),AV.sl 2 (List.map zbU s.Seeds),I s.Monitor.Part,I s.Monitor.Total,I s.Monitor.Window,I s.Monitor.Fails]),(1,AV.sl 9 (List.map zaa ev))],[]⟩=(some ⟨[(1,AV.sl 9 (List.map zaa ev)),(2,AV.loc 2 9 0 0)],[(2,⟨9,zaz,[zau s],true⟩)]⟩):=by kernel_rfl
theorem w1 (s:zay) (ev:List zab):tReg zaD zT 1 ⟨[(1,AV.sl 9 (List.map zaa ev)),(2,AV.loc 2 9 0 0)],[(2,⟨9,zaz,[zau s],true⟩)]⟩=(some ⟨[(1,AV.sl 9 (List.map zaa ev)),(2,AV.loc 2 9 0 0),(6,AV.loc 18 100 0 0)],[(2,⟨9,zaz,[zau s],true⟩),(18,⟨100,zax,[cells fun _=>none],true⟩)]⟩):=by kernel_rfl
theorem w2 (s:zay) (ev:List zab) (x:Nat→Option Addr):tReg zaD zT 2 ⟨[(1,AV.sl 9 (List.map zaa ev)),(2,AV.loc 2 9 0 0),(6,AV.loc 18 100 0 0)],[(2,⟨9,zaz,[zau s],true⟩),(18,⟨100,zax,[cells x],true⟩)]⟩=(some ⟨[(1,AV.sl 9 (List.map zaa ev)),(2,AV.loc 2 9 0 0),(6,AV.loc 18 100 0 0),(20,AV.sl 5 (List.map zaR s.Markers)),(21,I ((↑(List.map zaR s.Markers).length:Int))),(22,I 0)],[(2,⟨9,zaz,[zau s],true⟩),(18,⟨100,zax,[cells x],true⟩)]⟩):=by kernel_rfl
theorem w3 (s:zay) (ev:List zab) (x:Nat→Option Addr) (n:Int) (i:Int):tReg zaD zT 3 ⟨[(1,AV.sl 9 (List.map zaa ev)),(2,AV.loc 2 9 0 0),(6,AV.loc 18 100 0 0),(20,AV.sl 5 (List.map zaR s.Markers)),(21,I n),(22,I i)],[(2,⟨9,zaz,[zau s],true⟩),(18,⟨100,zax,[cells x],true⟩)]⟩=(some ⟨[(1,AV.sl 9 (List.map zaa ev)),(2,AV.loc 2 9 0 0),(6,AV.loc 18 100 0 0),(20,AV.sl 5 (List.map zaR s.Markers)),(21,I n),(22,I i),(23,B (decide (i < n)))],[(2,⟨9,zaz,[zau s],true⟩),(18,⟨100,zax,[cells x],true⟩)]⟩):=by kernel_rfl
theorem w4 (s:zay) (ev:List zab) (x:Nat→Option Addr) (n:Int) (i:Int):tReg zaD zT 4 ⟨[(1,AV.sl 9 (List.map zaa ev)),(2,AV.loc 2 9 0 0),(6,AV.loc 18 100 0 0),(20,AV.sl 5 (List.map zaR s.Markers)),(21,I n),(22,I i)],[(2,⟨9,zaz,[zau s],true⟩),(18,⟨100,zax,[cells x],true⟩)]⟩=(chk ((0:Int)≤i)<|
 elemD zcA (List.map zaR s.Markers) i.toNat fun (c0:zaU) =>
 some ⟨[(1,AV.sl 9 (List.map zaa ev)),(2,AV.loc 2 9 0 0),(6,AV.loc 18 100 0 0),(8,AV.loc 8 5 0 0),(20,AV.sl 5 (List.map zaR s.Markers)),(21,I n),(22,I i)],[(2,⟨9,zaz,[zau s],true⟩),(8,⟨5,zcX,[zaR c0],true⟩),(18,⟨100,zax,[cells x],true⟩)]⟩):=by kernel_rfl
theorem w6 (s:zay) (ev:List zab) (x:Nat→Option Addr) (n:Int) (i:Int):tReg zaD zT 6 ⟨[(1,AV.sl 9 (List.map zaa ev)),(2,AV.loc 2 9 0 0),(6,AV.loc 18 100 0 0),(20,AV.sl 5 (List.map zaR s.Markers)),(21,I n),(22,I i)],[(2,⟨9,zaz,[zau s],true⟩),(18,⟨100,zax,[cells x],true⟩)]⟩=(some ⟨[(1,AV.sl 9 (List.map zaa ev)),(2,AV.loc 2 9 0 0),(6,AV.loc 18 100 0 0),(20,AV.sl 5 (List.map zaR s.Markers)),(21,I n),(22,I (w64 (i+1)))],[(2,⟨9,zaz,[zau s],true⟩),(18,⟨100,zax,[cells x],true⟩)]⟩):=by kernel_rfl
theorem w7 (s:zay) (ev:List zab) (xs:List (List AV)):tReg zaD zT 7 ⟨[(1,AV.sl 9 (List.map zaa ev)),(2,AV.loc 2 9 0 0),(6,AV.loc 18 1 0 0)],[(2,⟨9,zaz,[zau s],true⟩),(18,⟨1,zax,xs,false⟩)]⟩=(some ⟨[(1,AV.sl 9 (List.map zaa ev)),(2,AV.loc 2 9 0 0),(6,AV.loc 18 1 0 0),(9,AV.map 37)],[(2,⟨9,zaz,[zau s],true⟩),(18,⟨1,zax,xs,false⟩),(37,⟨0,zao,[],false⟩)]⟩):=by kernel_rfl
theorem w8 (s:zay) (ev:List zab) (xs:List (List AV)) (R:List (List AV)):tReg zaD zT 8 ⟨[(1,AV.sl 9 (List.map zaa ev)),(2,AV.loc 2 9 0 0),(6,AV.loc 18 1 0 0),(9,AV.map 37)],[(2,⟨9,zaz,[zau s],true⟩),(18,⟨1,zax,xs,false⟩),(37,⟨0,zao,R,false⟩)]⟩=(some ⟨[(2,AV.loc 2 9 0 0),(6,AV.loc 18 1 0 0),(9,AV.map 37),(38,AV.sl 9 (List.map zaa ev)),(39,I ((↑(List.map zaa ev).length:Int))),(40,I 0)],[(2,⟨9,zaz,[zau s],true⟩),(18,⟨1,zax,xs,false⟩),(37,⟨0,zao,R,false⟩)]⟩):=by kernel_rfl
theorem w9 (s:zay) (ev:List zab) (xs:List (List AV)) (R:List (List AV)) (n:Int) (i:Int):tReg zaD zT 9 ⟨[(2,AV.loc 2 9 0 0),(6,AV.loc 18 1 0 0),(9,AV.map 37),(38,AV.sl 9 (List.map zaa ev)),(39,I n),(40,I i)],[(2,⟨9,zaz,[zau s],true⟩),(18,⟨1,zax,xs,false⟩),(37,⟨0,zao,R,false⟩)]⟩=(some ⟨[(2,AV.loc 2 9 0 0),(6,AV.loc 18 1 0 0),(9,AV.map 37),(38,AV.sl 9 (List.map zaa ev)),(39,I n),(40,I i),(41,B (decide (i < n)))],[(2,⟨9,zaz,[zau s],true⟩),(18,⟨1,zax,xs,false⟩),(37,⟨0,zao,R,false⟩)]⟩):=by kernel_rfl
theorem w10 (s:zay) (ev:List zab) (xs:List (List AV)) (R:List (List AV)) (n:Int) (i:Int):tReg zaD zT 10 ⟨[(2,AV.loc 2 9 0 0),(6,AV.loc 18 1 0 0),(9,AV.map 37),(38,AV.sl 9 (List.map zaa ev)),(39,I n),(40,I i)],[(2,⟨9,zaz,[zau s],true⟩),(18,⟨1,zax,xs,false⟩),(37,⟨0,zao,R,false⟩)]⟩=(chk ((0:Int)≤i)<|
 elemD zaB (List.map zaa ev) i.toNat fun (c0:zab) =>
 some ⟨[(2,AV.loc 2 9 0 0),(6,AV.loc 18 1 0 0),(9,AV.map 37),(11,AV.loc 11 9 0 0),(38,AV.sl 9 (List.map zaa ev)),(39,I n),(40,I i)],[(2,⟨9,zaz,[zau s],true⟩),(11,⟨9,zac,[zaa c0],true⟩),(18,⟨1,zax,xs,false⟩),(37,⟨0,zao,R,false⟩)]⟩):=by kernel_rfl
theorem w11 (s:zay) (ev:List zab) (xs:List (List AV)) (R:List (List AV)) (n:Int) (i:Int) (e:zab):tReg zaD zT 11 ⟨[(2,AV.loc 2 9 0 0),(6,AV.loc 18 1 0 0),(9,AV.map 37),(11,AV.loc 11 9 0 0),(38,AV.sl 9 (List.map zaa ev)),(39,I n),(40,I i)],[(2,⟨9,zaz,[zau s],true⟩),(11,⟨9,zac,[zaa e],true⟩),(18,⟨1,zax,xs,false⟩),(37,⟨0,zao,R,false⟩)]⟩=(some ⟨[(2,AV.loc 2 9 0 0),(6,AV.loc 18 1 0 0),(9,AV.map 37),(11,AV.loc 11 9 0 0),(38,AV.sl 9 (List.map zaa ev)),(39,I n),(40,I i),(45,I e.Kind)],[(2,⟨9,zaz,[zau s],true⟩),(11,⟨9,zac,[zaa e],true⟩),(18,⟨1,zax,xs,false⟩),(37,⟨0,zao,R,false⟩)]⟩):=by kernel_rfl
theorem w12 (s:zay) (ev:List zab) (xs:List (List AV)) (R:List (List AV)) (n:Int) (i:Int) (e:zab):tReg zaD zT 12 ⟨[(2,AV.loc 2 9 0 0),(6,AV.loc 18 1 0 0),(9,AV.map 37),(11,AV.loc 11 9 0 0),(38,AV.sl 9 (List.map zaa ev)),(39,I n),(40,I i),(45,I e.Kind)],[(2,⟨9,zaz,[zau s],true⟩),(11,⟨9,zac,[zaa e],true⟩),(18,⟨1,zax,xs,false⟩),(37,⟨0,zao,R,false⟩)]⟩=(some ⟨[(2,AV.loc 2 9 0 0),(6,AV.loc 18 1 0 0),(9,AV.map 37),(11,AV.loc 11 9 0 0),(38,AV.sl 9 (List.map zaa ev)),(39,I n),(40,I i),(45,I e.Kind),(46,B (e.Kind == 1))],[(2,⟨9,zaz,[zau s],true⟩),(11,⟨9,zac,[zaa e],true⟩),(18,⟨1,zax,xs,false⟩),(37,⟨0,zao,R,false⟩)]⟩):=by kernel_rfl
theorem w13 (s:zay) (ev:List zab) (xs:List (List AV)) (R:List (List AV)) (n:Int) (i:Int) (e:zab):tReg zaD zT 13 ⟨[(2,AV.loc 2 9 0 0),(6,AV.loc 18 1 0 0),(9,AV.map 37),(11,AV.loc 11 9 0 0),(38,AV.sl 9 (List.map zaa ev)),(39,I n),(40,I i)],[(2,⟨9,zaz,[zau s],true⟩),(11,⟨9,zac,[zaa e],true⟩),(18,⟨1,zax,xs,false⟩),(37,⟨0,zao,R,false⟩)]⟩=(chk ((0:Int)≤e.Marker)<|
 chk ((e.Marker:Int) < (↑100:Int))<|
 elemP zeU xs (0+e.Marker.toNat) (some ⟨[(2,AV.loc 2 9 0 0),(6,AV.loc 18 1 0 0),(9,AV.map 37),(11,AV.loc 11 9 0 0),(12,AV.v (.pointer none)),(38,AV.sl 9 (List.map zaa ev)),(39,I n),(40,I i)],[(2,⟨9,zaz,[zau s],true⟩),(11,⟨9,zac,[zaa e],true⟩),(18,⟨1,zax,xs,false⟩),(37,⟨0,zao,R,false⟩)]⟩)
 (fun (p0:Addr)=>some ⟨[(2,AV.loc 2 9 0 0),(6,AV.loc 18 1 0 0),(9,AV.map 37),(11,AV.loc 11 9 0 0),(12,AV.v (.pointer (some p0))),(38,AV.sl 9 (List.map zaa ev)),(39,I n),(40,I i)],[(2,⟨9,zaz,[zau s],true⟩),(11,⟨9,zac,[zaa e],true⟩),(18,⟨1,zax,xs,false⟩),(37,⟨0,zao,R,false⟩)]⟩)
 fun (c1:zaf) =>
 some ⟨[(2,AV.loc 2 9 0 0),(6,AV.loc 18 1 0 0),(9,AV.map 37),(11,AV.loc 11 9 0 0),(12,AV.fp [I c1.level,AV.sl 10 (List.map zaj c1.marks),I c1.period,I c1.started.Time,I c1.started.Source,I c1.started.Seq,AV.mp (List.map zaq c1.noted),AV.sl 1 (List.map nBool c1.watch.Last),B c1.watch.Suspended,I c1.good.Time,I c1.good.Source,I c1.good.Seq,B c1.some,AV.sl 12 (List.map zah c1.suspensions)]),(38,AV.sl 9 (List.map zaa ev)),(39,I n),(40,I i)],[(2,⟨9,zaz,[zau s],true⟩),(11,⟨9,zac,[zaa e],true⟩),(18,⟨1,zax,xs,false⟩),(37,⟨0,zao,R,false⟩)]⟩):=by kernel_rfl
theorem w14n (s:zay) (ev:List zab) (xs:List (List AV)) (R:List (List AV)) (n:Int) (i:Int) (e:zab):tReg zaD zT 14 ⟨[(2,AV.loc 2 9 0 0),(6,AV.loc 18 1 0 0),(9,AV.map 37),(11,AV.loc 11 9 0 0),(12,AV.v (.pointer none)),(38,AV.sl 9 (List.map zaa ev)),(39,I n),(40,I i)],[(2,⟨9,zaz,[zau s],true⟩),(11,⟨9,zac,[zaa e],true⟩),(18,⟨1,zax,xs,false⟩),(37,⟨0,zao,R,false⟩)]⟩=(some ⟨[(2,AV.loc 2 9 0 0),(6,AV.loc 18 1 0 0),(9,AV.map 37),(11,AV.loc 11 9 0 0),(12,AV.v (.pointer none)),(38,AV.sl 9 (List.map zaa ev)),(39,I n),(40,I i),(55,B (!true))],[(2,⟨9,zaz,[zau s],true⟩),(11,⟨9,zac,[zaa e],true⟩),(18,⟨1,zax,xs,false⟩),(37,⟨0,zao,R,false⟩)]⟩):=by kernel_rfl
theorem w14p (s:zay) (ev:List zab) (xs:List (List AV)) (R:List (List AV)) (n:Int) (i:Int) (e:zab) (p:Addr):tReg zaD zT 14 ⟨[(2,AV.loc 2 9 0 0),(6,AV.loc 18 1 0 0),(9,AV.map 37),(11,AV.loc 11 9 0 0),(12,AV.v (.pointer (some p))),(38,AV.sl 9 (List.map zaa ev)),(39,I n),(40,I i)],[(2,⟨9,zaz,[zau s],true⟩),(11,⟨9,zac,[zaa e],true⟩),(18,⟨1,zax,xs,false⟩),(37,⟨0,zao,R,false⟩)]⟩=(some ⟨[(2,AV.loc 2 9 0 0),(6,AV.loc 18 1 0 0),(9,AV.map 37),(11,AV.loc 11 9 0 0),(12,AV.v (.pointer (some p))),(38,AV.sl 9 (List.map zaa ev)),(39,I n),(40,I i),(55,B (!false))],[(2,⟨9,zaz,[zau s],true⟩),(11,⟨9,zac,[zaa e],true⟩),(18,⟨1,zax,xs,false⟩),(37,⟨0,zao,R,false⟩)]⟩):=by kernel_rfl
theorem w15 (s:zay) (ev:List zab) (xs:List (List AV)) (R:List (List AV)) (n:Int) (i:Int) (e:zab) (p:Addr) (d:zaf):tReg0 zaD zT 15 ⟨[(12,AV.loc 1300 14 0 0),(2,AV.loc 2 9 0 0),(6,AV.loc 18 1 0 0),(9,AV.map 37),(11,AV.loc 11 9 0 0),(12,AV.v (.pointer (some p))),(38,AV.sl 9 (List.map zaa ev)),(39,I n),(40,I i)],[(1300,⟨14,za6,[[I d.level,AV.row 301 10 0 (List.length (List.map zaj d.marks)),I d.period,I d.started.Time,I d.started.Source,I d.started.Seq,AV.map 302,AV.sl 1 (List.map nBool d.watch.Last),B d.watch.Suspended,I d.good.Time,I d.good.Source,I d.good.Seq,B d.some,AV.row 303 12 0 (List.length (List.map zah d.suspensions))]],true⟩),(301,⟨10,za7,List.map zaj d.marks,false⟩),(302,⟨0,zaJ,List.map zaq d.noted,false⟩),(303,⟨12,zas,List.map zah d.suspensions,false⟩),(2,⟨9,zaz,[zau s],true⟩),(11,⟨9,zac,[zaa e],true⟩),(18,⟨1,zax,xs,false⟩),(37,⟨0,zao,R,false⟩)]⟩=(chk ((List.map zaj d.marks).length=(List.map zaj d.marks).length)<|
 chk ((List.map zah d.suspensions).length=(List.map zah d.suspensions).length)<|
 callD zck (cw zeB [AV.loc 1000 14 0 0,AV.agg (zbI e.Stamp)] [(1000,⟨14,za6,[[I d.level,AV.row 900 10 0 ((List.map zaj d.marks).length),I d.period,I d.started.Time,I d.started.Source,I d.started.Seq,AV.map 901,AV.sl 1 (List.map nBool d.watch.Last),B d.watch.Suspended,I d.good.Time,I d.good.Source,I d.good.Seq,B d.some,AV.row 902 12 0 ((List.map zah d.suspensions).length)]],true⟩),(900,⟨10,za7,List.map zaj d.marks,false⟩),(901,⟨0,zaJ,List.map zaq d.noted,false⟩),(902,⟨12,zas,List.map zah d.suspensions,false⟩)]) fun (r0:zaf) =>
 some ⟨[(59,AV.tup []),(58,AV.agg [I e.Stamp.Time,I e.Stamp.Source,I e.Stamp.Seq]),(57,AV.loc 11 9 0 (0+0)),(56,AV.loc 1300 14 0 0),(12,AV.loc 1300 14 0 0),(2,AV.loc 2 9 0 0),(6,AV.loc 18 1 0 0),(9,AV.map 37),(11,AV.loc 11 9 0 0),(12,AV.v (.pointer (some p))),(38,AV.sl 9 (List.map zaa ev)),(39,I n),(40,I i)],[(301,⟨10,za7,List.map zaj r0.marks,false⟩),(302,⟨0,zaJ,List.map zaq r0.noted,false⟩),(303,⟨12,zas,List.map zah r0.suspensions,false⟩),(1300,⟨14,za6,[[I r0.level,AV.row 301 10 0 (List.length (List.map zaj r0.marks)),I r0.period,I r0.started.Time,I r0.started.Source,I r0.started.Seq,AV.map 302,AV.sl 1 (List.map nBool r0.watch.Last),B r0.watch.Suspended,I r0.good.Time,I r0.good.Source,I r0.good.Seq,B r0.some,AV.row 303 12 0 (List.length (List.map zah r0.suspensions))]],true⟩),(2,⟨9,zaz,[zau s],true⟩),(11,⟨9,zac,[zaa e],true⟩),(18,⟨1,zax,xs,false⟩),(37,⟨0,zao,R,false⟩)]⟩):=by kernel_rfl
theorem w16 (s:zay) (ev:List zab) (xs:List (List AV)) (R:List (List AV)) (n:Int) (i:Int) (e:zab):tReg zaD zT 16 ⟨[(2,AV.loc 2 9 0 0),(6,AV.loc 18 1 0 0),(9,AV.map 37),(11,AV.loc 11 9 0 0),(38,AV.sl 9 (List.map zaa ev)),(39,I n),(40,I i),(45,I e.Kind)],[(2,⟨9,zaz,[zau s],true⟩),(11,⟨9,zac,[zaa e],true⟩),(18,⟨1,zax,xs,false⟩),(37,⟨0,zao,R,false⟩)]⟩=(some ⟨[(2,AV.loc 2 9 0 0),(6,AV.loc 18 1 0 0),(9,AV.map 37),(11,AV.loc 11 9 0 0),(38,AV.sl 9 (List.map zaa ev)),(39,I n),(40,I i),(45,I e.Kind),(60,B (e.Kind == 2))],[(2,⟨9,zaz,[zau s],true⟩),(11,⟨9,zac,[zaa e],true⟩),(18,⟨1,zax,xs,false⟩),(37,⟨0,zao,R,false⟩)]⟩):=by kernel_rfl
theorem w17 (s:zay) (ev:List zab) (xs:List (List AV)) (R:List (zar×zaM)) (n:Int) (i:Int) (e:zab):tReg zaD zT 17 ⟨[(2,AV.loc 2 9 0 0),(6,AV.loc 18 1 0 0),(9,AV.map 37),(11,AV.loc 11 9 0 0),(38,AV.sl 9 (List.map zaa ev)),(39,I n),(40,I i)],[(2,⟨9,zaz,[zau s],true⟩),(11,⟨9,zac,[zaa e],true⟩),(18,⟨1,zax,xs,false⟩),(37,⟨0,zao,List.map zal R,false⟩)]⟩=(msetD zP 117 49 (AV.agg (zbd (⟨e.Script,e.Part⟩))) (AV.agg (zbI e.Stamp)) (List.map zal R) fun (m0:List (List AV))=>some ⟨[(2,AV.loc 2 9 0 0),(6,AV.loc 18 1 0 0),(9,AV.map 37),(38,AV.sl 9 (List.map zaa ev)),(39,I n),(40,I i)],[(2,⟨9,zaz,[zau s],true⟩),(18,⟨1,zax,xs,false⟩),(37,⟨0,zao,m0,false⟩)]⟩):=by kernel_rfl
theorem w18 (s:zay) (ev:List zab) (xs:List (List AV)) (R:List (List AV)) (n:Int) (i:Int) (e:zab):tReg zaD zT 18 ⟨[(2,AV.loc 2 9 0 0),(6,AV.loc 18 1 0 0),(9,AV.map 37),(11,AV.loc 11 9 0 0),(38,AV.sl 9 (List.map zaa ev)),(39,I n),(40,I i),(45,I e.Kind)],[(2,⟨9,zaz,[zau s],true⟩),(11,⟨9,zac,[zaa e],true⟩),(18,⟨1,zax,xs,false⟩),(37,⟨0,zao,R,false⟩)]⟩=(some ⟨[(2,AV.loc 2 9 0 0),(6,AV.loc 18 1 0 0),(9,AV.map 37),(11,AV.loc 11 9 0 0),(38,AV.sl 9 (List.map zaa ev)),(39,I n),(40,I i),(70,B (e.Kind == 0))],[(2,⟨9,zaz,[zau s],true⟩),(11,⟨9,zac,[zaa e],true⟩),(18,⟨1,zax,xs,false⟩),(37,⟨0,zao,R,false⟩)]⟩):=by kernel_rfl
theorem w19 (s:zay) (ev:List zab) (xs:List (List AV)) (R:List (List AV)) (n:Int) (i:Int) (e:zab):tReg zaD zT 19 ⟨[(2,AV.loc 2 9 0 0),(6,AV.loc 18 1 0 0),(9,AV.map 37),(11,AV.loc 11 9 0 0),(38,AV.sl 9 (List.map zaa ev)),(39,I n),(40,I i)],[(2,⟨9,zaz,[zau s],true⟩),(11,⟨9,zac,[zaa e],true⟩),(18,⟨1,zax,xs,false⟩),(37,⟨0,zao,R,false⟩)]⟩=(chk (0 < xs.length)<|
 callD zfX (cw zfS [AV.fa 1 xs,AV.agg (zau s),AV.agg (zaa e)] []) fun (r0:Int×(Option Addr)) =>
 some ⟨[(2,AV.loc 2 9 0 0),(6,AV.loc 18 1 0 0),(9,AV.map 37),(11,AV.loc 11 9 0 0),(13,I r0.fst),(14,AV.v (.pointer (r0.snd))),(38,AV.sl 9 (List.map zaa ev)),(39,I n),(40,I i)],[(2,⟨9,zaz,[zau s],true⟩),(11,⟨9,zac,[zaa e],true⟩),(18,⟨1,zax,xs,false⟩),(37,⟨0,zao,R,false⟩)]⟩):=by kernel_rfl
theorem w20n (s:zay) (ev:List zab) (xs:List (List AV)) (R:List (List AV)) (n:Int) (i:Int) (e:zab) (q:Int):tReg zaD zT 20 ⟨[(2,AV.loc 2 9 0 0),(6,AV.loc 18 1 0 0),(9,AV.map 37),(11,AV.loc 11 9 0 0),(13,I q),(14,AV.v (.pointer none)),(38,AV.sl 9 (List.map zaa ev)),(39,I n),(40,I i)],[(2,⟨9,zaz,[zau s],true⟩),(11,⟨9,zac,[zaa e],true⟩),(18,⟨1,zax,xs,false⟩),(37,⟨0,zao,R,false⟩)]⟩=(some ⟨[(2,AV.loc 2 9 0 0),(6,AV.loc 18 1 0 0),(9,AV.map 37),(11,AV.loc 11 9 0 0),(13,I q),(14,AV.v (.pointer none)),(38,AV.sl 9 (List.map zaa ev)),(39,I n),(40,I i),(80,B true)],[(2,⟨9,zaz,[zau s],true⟩),(11,⟨9,zac,[zaa e],true⟩),(18,⟨1,zax,xs,false⟩),(37,⟨0,zao,R,false⟩)]⟩):=by kernel_rfl
theorem w20p (s:zay) (ev:List zab) (xs:List (List AV)) (R:List (List AV)) (n:Int) (i:Int) (e:zab) (q:Int) (p:Addr):tReg zaD zT 20 ⟨[(2,AV.loc 2 9 0 0),(6,AV.loc 18 1 0 0),(9,AV.map 37),(11,AV.loc 11 9 0 0),(13,I q),(14,AV.v (.pointer (some p))),(38,AV.sl 9 (List.map zaa ev)),(39,I n),(40,I i)],[(2,⟨9,zaz,[zau s],true⟩),(11,⟨9,zac,[zaa e],true⟩),(18,⟨1,zax,xs,false⟩),(37,⟨0,zao,R,false⟩)]⟩=(some ⟨[(2,AV.loc 2 9 0 0),(6,AV.loc 18 1 0 0),(9,AV.map 37),(11,AV.loc 11 9 0 0),(13,I q),(14,AV.v (.pointer (some p))),(38,AV.sl 9 (List.map zaa ev)),(39,I n),(40,I i),(80,B false)],[(2,⟨9,zaz,[zau s],true⟩),(11,⟨9,zac,[zaa e],true⟩),(18,⟨1,zax,xs,false⟩),(37,⟨0,zao,R,false⟩)]⟩):=by kernel_rfl
theorem w21 (s:zay) (ev:List zab) (xs:List (List AV)) (R:List (List AV)) (n:Int) (i:Int) (e:zab) (q:Int) (p:Addr):tReg zaD zT 21 ⟨[(2,AV.loc 2 9 0 0),(6,AV.loc 18 1 0 0),(9,AV.map 37),(11,AV.loc 11 9 0 0),(13,I q),(14,AV.v (.pointer (some p))),(38,AV.sl 9 (List.map zaa ev)),(39,I n),(40,I i)],[(2,⟨9,zaz,[zau s],true⟩),(11,⟨9,zac,[zaa e],true⟩),(18,⟨1,zax,xs,false⟩),(37,⟨0,zao,R,false⟩)]⟩=(callD zin (cw zia [AV.agg (zau s),I e.Script] []) fun (r0:GSeed×Bool)=>some ⟨[(2,AV.loc 2 9 0 0),(6,AV.loc 18 1 0 0),(9,AV.map 37),(11,AV.loc 11 9 0 0),(13,I q),(14,AV.v (.pointer (some p))),(15,AV.loc 15 2 0 0),(16,B r0.snd),(38,AV.sl 9 (List.map zaa ev)),(39,I n),(40,I i)],[(2,⟨9,zaz,[zau s],true⟩),(11,⟨9,zac,[zaa e],true⟩),(15,⟨2,zc5,[zbU r0.fst],true⟩),(18,⟨1,zax,xs,false⟩),(37,⟨0,zao,R,false⟩)]⟩):=by kernel_rfl
theorem w22 (s:zay) (ev:List zab) (xs:List (List AV)) (R:List (List AV)) (n:Int) (i:Int) (e:zab) (q:Int) (p:Addr) (sd:GSeed) (b:Bool):tReg zaD zT 22 ⟨[(2,AV.loc 2 9 0 0),(6,AV.loc 18 1 0 0),(9,AV.map 37),(11,AV.loc 11 9 0 0),(13,I q),(14,AV.v (.pointer (some p))),(15,AV.loc 15 2 0 0),(16,B b),(38,AV.sl 9 (List.map zaa ev)),(39,I n),(40,I i)],[(2,⟨9,zaz,[zau s],true⟩),(11,⟨9,zac,[zaa e],true⟩),(15,⟨2,zc5,[zbU sd],true⟩),(18,⟨1,zax,xs,false⟩),(37,⟨0,zao,R,false⟩)]⟩=(some ⟨[(2,AV.loc 2 9 0 0),(6,AV.loc 18 1 0 0),(9,AV.map 37),(11,AV.loc 11 9 0 0),(13,I q),(14,AV.v (.pointer (some p))),(15,AV.loc 15 2 0 0),(38,AV.sl 9 (List.map zaa ev)),(39,I n),(40,I i),(88,B b)],[(2,⟨9,zaz,[zau s],true⟩),(11,⟨9,zac,[zaa e],true⟩),(15,⟨2,zc5,[zbU sd],true⟩),(18,⟨1,zax,xs,false⟩),(37,⟨0,zao,R,false⟩)]⟩):=by kernel_rfl
theorem w23 (s:zay) (ev:List zab) (xs:List (List AV)) (R:List (List AV)) (n:Int) (i:Int) (e:zab) (q:Int) (p:Addr) (sd:GSeed) (d:zaf):tReg0 zaD zT 23 ⟨[(14,AV.loc 1300 14 0 0),(2,AV.loc 2 9 0 0),(6,AV.loc 18 1 0 0),(9,AV.map 37),(11,AV.loc 11 9 0 0),(13,I q),(14,AV.v (.pointer (some p))),(15,AV.loc 15 2 0 0),(38,AV.sl 9 (List.map zaa ev)),(39,I n),(40,I i)],[(1300,⟨14,za6,[[I d.level,AV.row 301 10 0 (List.length (List.map zaj d.marks)),I d.period,I d.started.Time,I d.started.Source,I d.started.Seq,AV.map 302,AV.sl 1 (List.map nBool d.watch.Last),B d.watch.Suspended,I d.good.Time,I d.good.Source,I d.good.Seq,B d.some,AV.row 303 12 0 (List.length (List.map zah d.suspensions))]],true⟩),(301,⟨10,za7,List.map zaj d.marks,false⟩),(302,⟨0,zaJ,List.map zaq d.noted,false⟩),(303,⟨12,zas,List.map zah d.suspensions,false⟩),(2,⟨9,zaz,[zau s],true⟩),(11,⟨9,zac,[zaa e],true⟩),(15,⟨2,zc5,[zbU sd],true⟩),(18,⟨1,zax,xs,false⟩),(37,⟨0,zao,R,false⟩)]⟩=(chk ((0:Int)≤q)<|
 elemD zb6 (List.map zaL s.Papers) q.toNat fun (c0:zaE) =>
 chk ((List.map zaj d.marks).length=(List.map zaj d.marks).length)<|
 chk ((List.map zah d.suspensions).length=(List.map zah d.suspensions).length)<|
 callD zck (cw zgn [AV.loc 1000 14 0 0,AV.agg (zau s),AV.agg (zaL c0),AV.agg (zbU sd),AV.agg (zaa e)] [(1000,⟨14,za6,[[I d.level,AV.row 900 10 0 ((List.map zaj d.marks).length),I d.period,I d.started.Time,I d.started.Source,I d.started.Seq,AV.map 901,AV.sl 1 (List.map nBool d.watch.Last),B d.watch.Suspended,I d.good.Time,I d.good.Source,I d.good.Seq,B d.some,AV.row 902 12 0 ((List.map zah d.suspensions).length)]],true⟩),(900,⟨10,za7,List.map zaj d.marks,false⟩),(901,⟨0,zaJ,List.map zaq d.noted,false⟩),(902,⟨12,zas,List.map zah d.suspensions,false⟩)]) fun (r1:zaf) =>
 some ⟨[(98,AV.tup []),(97,AV.agg [I e.Stamp.Time,I e.Stamp.Source,I e.Stamp.Seq,I e.Kind,I e.Script,I e.Part,I e.Value,I e.Marker,AV.sl 1 (List.map zak e.Pages)]),(96,AV.agg [I sd.Script,AV.sl 1 (List.map zak sd.Marks)]),(95,AV.agg [I c0.Code,I c0.Variant,AV.sl 6 (List.map zaP c0.Parts)]),(94,AV.fp [I c0.Code,I c0.Variant,AV.sl 6 (List.map zaP c0.Parts)]),(93,I q),(92,AV.sl 3 (List.map zaL s.Papers)),(91,AV.loc 2 9 0 (0+2)),(90,AV.agg [AV.sl 5 (List.map zaR s.Markers),AV.sl 7 (List.map zaS s.Scripts),AV.sl 3 (List.map zaL s.Papers),AV.sl 2 (List.map zbX s.Schemes),AV.sl 2 (List.map zbU s.Seeds),I s.Monitor.Part,I s.Monitor.Total,I s.Monitor.Window,I s.Monitor.Fails]),(89,AV.loc 1300 14 0 0),(14,AV.loc 1300 14 0 0),(2,AV.loc 2 9 0 0),(6,AV.loc 18 1 0 0),(9,AV.map 37),(11,AV.loc 11 9 0 0),(13,I q),(14,AV.v (.pointer (some p))),(15,AV.loc 15 2 0 0),(38,AV.sl 9 (List.map zaa ev)),(39,I n),(40,I i)],[(301,⟨10,za7,List.map zaj r1.marks,false⟩),(302,⟨0,zaJ,List.map zaq r1.noted,false⟩),(303,⟨12,zas,List.map zah r1.suspensions,false⟩),(1300,⟨14,za6,[[I r1.level,AV.row 301 10 0 (List.length (List.map zaj r1.marks)),I r1.period,I r1.started.Time,I r1.started.Source,I r1.started.Seq,AV.map 302,AV.sl 1 (List.map nBool r1.watch.Last),B r1.watch.Suspended,I r1.good.Time,I r1.good.Source,I r1.good.Seq,B r1.some,AV.row 303 12 0 (List.length (List.map zah r1.suspensions))]],true⟩),(2,⟨9,zaz,[zau s],true⟩),(11,⟨9,zac,[zaa e],true⟩),(15,⟨2,zc5,[zbU sd],true⟩),(18,⟨1,zax,xs,false⟩),(37,⟨0,zao,R,false⟩)]⟩):=by kernel_rfl
theorem w24 (s:zay) (ev:List zab) (xs:List (List AV)) (R:List (List AV)) (n:Int) (i:Int) (e:zab) (q:Int) (p:Addr) (sd:GSeed) (d:zaf):tReg0 zaD zT 24 ⟨[(14,AV.loc 1300 14 0 0),(2,AV.loc 2 9 0 0),(6,AV.loc 18 1 0 0),(9,AV.map 37),(11,AV.loc 11 9 0 0),(13,I q),(14,AV.v (.pointer (some p))),(15,AV.loc 15 2 0 0),(38,AV.sl 9 (List.map zaa ev)),(39,I n),(40,I i)],[(1300,⟨14,za6,[[I d.level,AV.row 301 10 0 (List.length (List.map zaj d.marks)),I d.period,I d.started.Time,I d.started.Source,I d.started.Seq,AV.map 302,AV.sl 1 (List.map nBool d.watch.Last),B d.watch.Suspended,I d.good.Time,I d.good.Source,I d.good.Seq,B d.some,AV.row 303 12 0 (List.length (List.map zah d.suspensions))]],true⟩),(301,⟨10,za7,List.map zaj d.marks,false⟩),(302,⟨0,zaJ,List.map zaq d.noted,false⟩),(303,⟨12,zas,List.map zah d.suspensions,false⟩),(2,⟨9,zaz,[zau s],true⟩),(11,⟨9,zac,[zaa e],true⟩),(15,⟨2,zc5,[zbU sd],true⟩),(18,⟨1,zax,xs,false⟩),(37,⟨0,zao,R,false⟩)]⟩=(chk ((List.map zaj d.marks).length=(List.map zaj d.marks).length)<|
 chk (((List.map zaj d.marks).length+1)*(96+1)≤1099511627776)<|
 some ⟨[(114,AV.loc 1300 14 0 (0+1)),(113,AV.loc 1300 14 0 0),(112,AV.row 112 10 0 (List.length ((List.map zaj d.marks)++([[I e.Stamp.Time,I e.Stamp.Source,I e.Stamp.Seq,I e.Kind,I e.Script,I e.Part,I e.Value,I e.Marker,AV.sl 1 (List.map zak e.Pages),B d.watch.Suspended]])))),(111,AV.sl 10 ([[I e.Stamp.Time,I e.Stamp.Source,I e.Stamp.Seq,I e.Kind,I e.Script,I e.Part,I e.Value,I e.Marker,AV.sl 1 (List.map zak e.Pages),B d.watch.Suspended]])),(110,AV.agg [I e.Stamp.Time,I e.Stamp.Source,I e.Stamp.Seq,I e.Kind,I e.Script,I e.Part,I e.Value,I e.Marker,AV.sl 1 (List.map zak e.Pages),B d.watch.Suspended]),(109,B d.watch.Suspended),(108,AV.loc 1300 14 0 (0+7+1)),(107,AV.loc 1300 14 0 (0+7)),(106,AV.loc 1300 14 0 0),(105,AV.loc 1300 14 0 0),(104,AV.agg [I e.Stamp.Time,I e.Stamp.Source,I e.Stamp.Seq,I e.Kind,I e.Script,I e.Part,I e.Value,I e.Marker,AV.sl 1 (List.map zak e.Pages)]),(103,.bot),(102,AV.loc 1300 14 0 (0+1)),(101,AV.loc 1300 14 0 0),(100,AV.loc 1300 14 0 0),(99,AV.loc 1300 14 0 0),(14,AV.loc 1300 14 0 0),(2,AV.loc 2 9 0 0),(6,AV.loc 18 1 0 0),(9,AV.map 37),(11,AV.loc 11 9 0 0),(13,I q),(14,AV.v (.pointer (some p))),(15,AV.loc 15 2 0 0),(38,AV.sl 9 (List.map zaa ev)),(39,I n),(40,I i)],[(112,⟨10,za7,(List.map zaj d.marks)++([zaj (⟨⟨⟨e.Stamp.Time,e.Stamp.Source,e.Stamp.Seq⟩,e.Kind,e.Script,e.Part,e.Value,e.Marker,e.Pages⟩,d.watch.Suspended⟩)]),false⟩),(1300,⟨14,za6,[[I d.level,AV.row 112 10 0 (List.length ((List.map zaj d.marks)++([[I e.Stamp.Time,I e.Stamp.Source,I e.Stamp.Seq,I e.Kind,I e.Script,I e.Part,I e.Value,I e.Marker,AV.sl 1 (List.map zak e.Pages),B d.watch.Suspended]]))),I d.period,I d.started.Time,I d.started.Source,I d.started.Seq,AV.map 302,AV.sl 1 (List.map nBool d.watch.Last),B d.watch.Suspended,I d.good.Time,I d.good.Source,I d.good.Seq,B d.some,AV.row 303 12 0 (List.length (List.map zah d.suspensions))]],true⟩),(302,⟨0,zaJ,List.map zaq d.noted,false⟩),(303,⟨12,zas,List.map zah d.suspensions,false⟩),(2,⟨9,zaz,[zau s],true⟩),(11,⟨9,zac,[zaa e],true⟩),(15,⟨2,zc5,[zbU sd],true⟩),(18,⟨1,zax,xs,false⟩),(37,⟨0,zao,R,false⟩)]⟩):=by kernel_rfl
theorem w25 (s:zay) (ev:List zab) (xs:List (List AV)) (R:List (List AV)) (n:Int) (i:Int):tReg zaD zT 25 ⟨[(2,AV.loc 2 9 0 0),(6,AV.loc 18 1 0 0),(9,AV.map 37),(38,AV.sl 9 (List.map zaa ev)),(39,I n),(40,I i)],[(2,⟨9,zaz,[zau s],true⟩),(18,⟨1,zax,xs,false⟩),(37,⟨0,zao,R,false⟩)]⟩=(some ⟨[(2,AV.loc 2 9 0 0),(6,AV.loc 18 1 0 0),(9,AV.map 37),(38,AV.sl 9 (List.map zaa ev)),(39,I n),(40,I (w64 (i+1)))],[(2,⟨9,zaz,[zau s],true⟩),(18,⟨1,zax,xs,false⟩),(37,⟨0,zao,R,false⟩)]⟩):=by kernel_rfl
theorem w26 (xs:List (List AV)) (R:List (List AV)):tReg zaD zT 26 ⟨[(6,AV.loc 18 1 0 0),(9,AV.map 37)],[(18,⟨1,zax,xs,false⟩),(37,⟨0,zao,R,false⟩)]⟩=(some ⟨[(4,AV.loc 18 1 0 0),(5,AV.map 37)],[(18,⟨1,zax,xs,false⟩),(37,⟨0,zao,R,false⟩)]⟩):=by kernel_rfl
set_option maxRecDepth 100000
theorem zwL {p:Nat→Prop} {n:Nat} (h:∀ k,k < n→p k) (hn:p n):∀ k,k < n+1→p k:=fun k hk=>by
 rcases Nat.lt_succ_iff_lt_or_eq.1 hk with q | q
 · exact h k q
 · rw [q]; exact hn
theorem w5:∀ k:Nat,k < 100→∀ (s:zay) (ev:List zab) (x:Nat→Option Addr) (n:Int) (i:Int) (c:Int) (l:Int) (cap:Int) (ps:List Int),tReg zaD zT 5 ⟨[(1,AV.sl 9 (List.map zaa ev)),(2,AV.loc 2 9 0 0),(6,AV.loc 18 100 0 0),(8,AV.loc 8 5 0 0),(20,AV.sl 5 (List.map zaR s.Markers)),(21,I n),(22,I i)],[(2,⟨9,zaz,[zau s],true⟩),(8,⟨5,zcX,[zaR (⟨(k:Int),c,l,cap,ps⟩)],true⟩),(18,⟨100,zax,[cells x],true⟩)]⟩=(some ⟨[(1,AV.sl 9 (List.map zaa ev)),(2,AV.loc 2 9 0 0),(6,AV.loc 18 100 0 0),(20,AV.sl 5 (List.map zaR s.Markers)),(21,I n),(22,I i)],[(2,⟨9,zaz,[zau s],true⟩),(18,⟨100,zax,[(cells x).set k (AV.loc 33 14 0 0)],true⟩),(33,⟨14,za6,[[I l,AV.row 301 10 0 0,I 0,I 0,I 0,I 0,AV.map 302,AV.sl 1 [],B false,I 0,I 0,I 0,B false,AV.row 303 12 0 0]],true⟩),(301,⟨10,za7,[],false⟩),(302,⟨0,zaJ,[],false⟩),(303,⟨12,zas,[],false⟩)]⟩):=by
 repeat (first | exact fun _ h=>absurd h (Nat.not_lt_zero _) | refine zwL ?_ ?_)
 all_goals intros; kernel_rfl
set_option maxRecDepth 100000
def wkC:Code:=(zaD.fn.body).getD .skip
def wkO (j:Nat):Array Oper:=opsAt j wkC
def wkD (j:Nat):Bool:=zq3 j wkC
theorem wk_hb:zaD.fn.body=some wkC:=by kernel_rfl
theorem wk_shape:wkC=(.seq (.region 0 (wkO 0) (wkD 0)) (.seq (.region 1 (wkO 1) (wkD 1)) (.seq (.seq (.region 2 (wkO 2) (wkD 2)) (.block 0 (.loop (.seq (.region 3 (wkO 3) (wkD 3)) (.seq (.cond (.tmp 23) .skip (.exit 0)) (.seq (.block 1 (.seq (.region 4 (wkO 4) (wkD 4)) (.region 5 (wkO 5) (wkD 5)))) (.region 6 (wkO 6) (wkD 6)))))))) (.seq (.region 7 (wkO 7) (wkD 7)) (.seq (.seq (.region 8 (wkO 8) (wkD 8)) (.block 2 (.loop (.seq (.region 9 (wkO 9) (wkD 9)) (.seq (.cond (.tmp 41) .skip (.exit 2)) (.seq (.block 3 (.seq (.region 10 (wkO 10) (wkD 10)) (.seq (.region 11 (wkO 11) (wkD 11)) (.block 4 (.seq (.region 12 (wkO 12) (wkD 12)) (.cond (.tmp 46) (.seq (.region 13 (wkO 13) (wkD 13)) (.seq (.region 14 (wkO 14) (wkD 14)) (.cond (.tmp 55) (.region 15 (wkO 15) (wkD 15)) .skip))) (.seq (.region 16 (wkO 16) (wkD 16)) (.cond (.tmp 60) (.region 17 (wkO 17) (wkD 17)) (.seq (.region 18 (wkO 18) (wkD 18)) (.cond (.tmp 70) (.seq (.region 19 (wkO 19) (wkD 19)) (.seq (.seq (.region 20 (wkO 20) (wkD 20)) (.cond (.tmp 80) (.exit 3) .skip)) (.seq (.region 21 (wkO 21) (wkD 21)) (.seq (.region 22 (wkO 22) (wkD 22)) (.cond (.tmp 88) (.region 23 (wkO 23) (wkD 23)) (.region 24 (wkO 24) (wkD 24))))))) .skip)))))))))) (.region 25 (wkO 25) (wkD 25)))))))) (.seq (.region 26 (wkO 26) (wkD 26)) .ret)))))):=by kernel_rfl
theorem wk_r0:regOf 0 wkC=some (.region 0 (wkO 0) (wkD 0)):=by kernel_rfl
theorem wk_r1:regOf 1 wkC=some (.region 1 (wkO 1) (wkD 1)):=by kernel_rfl
theorem wk_r2:regOf 2 wkC=some (.region 2 (wkO 2) (wkD 2)):=by kernel_rfl
theorem wk_r3:regOf 3 wkC=some (.region 3 (wkO 3) (wkD 3)):=by kernel_rfl
theorem wk_r4:regOf 4 wkC=some (.region 4 (wkO 4) (wkD 4)):=by kernel_rfl
theorem wk_r5:regOf 5 wkC=some (.region 5 (wkO 5) (wkD 5)):=by kernel_rfl
theorem wk_r6:regOf 6 wkC=some (.region 6 (wkO 6) (wkD 6)):=by kernel_rfl
theorem wk_r7:regOf 7 wkC=some (.region 7 (wkO 7) (wkD 7)):=by kernel_rfl
theorem wk_r8:regOf 8 wkC=some (.region 8 (wkO 8) (wkD 8)):=by kernel_rfl
theorem wk_r9:regOf 9 wkC=some (.region 9 (wkO 9) (wkD 9)):=by kernel_rfl
theorem wk_r10:regOf 10 wkC=some (.region 10 (wkO 10) (wkD 10)):=by kernel_rfl
theorem wk_r11:regOf 11 wkC=some (.region 11 (wkO 11) (wkD 11)):=by kernel_rfl
theorem wk_r12:regOf 12 wkC=some (.region 12 (wkO 12) (wkD 12)):=by kernel_rfl
theorem wk_r13:regOf 13 wkC=some (.region 13 (wkO 13) (wkD 13)):=by kernel_rfl
theorem wk_r14:regOf 14 wkC=some (.region 14 (wkO 14) (wkD 14)):=by kernel_rfl
theorem wk_r15:regOf 15 wkC=some (.region 15 (wkO 15) (wkD 15)):=by kernel_rfl
theorem wk_r16:regOf 16 wkC=some (.region 16 (wkO 16) (wkD 16)):=by kernel_rfl
theorem wk_r17:regOf 17 wkC=some (.region 17 (wkO 17) (wkD 17)):=by kernel_rfl
theorem wk_r18:regOf 18 wkC=some (.region 18 (wkO 18) (wkD 18)):=by kernel_rfl
theorem wk_r19:regOf 19 wkC=some (.region 19 (wkO 19) (wkD 19)):=by kernel_rfl
theorem wk_r20:regOf 20 wkC=some (.region 20 (wkO 20) (wkD 20)):=by kernel_rfl
theorem wk_r21:regOf 21 wkC=some (.region 21 (wkO 21) (wkD 21)):=by kernel_rfl
theorem wk_r22:regOf 22 wkC=some (.region 22 (wkO 22) (wkD 22)):=by kernel_rfl
theorem wk_r23:regOf 23 wkC=some (.region 23 (wkO 23) (wkD 23)):=by kernel_rfl
theorem wk_r24:regOf 24 wkC=some (.region 24 (wkO 24) (wkD 24)):=by kernel_rfl
theorem wk_r25:regOf 25 wkC=some (.region 25 (wkO 25) (wkD 25)):=by kernel_rfl
theorem wk_r26:regOf 26 wkC=some (.region 26 (wkO 26) (wkD 26)):=by kernel_rfl
theorem wk_n:zaD.fn.ntmps≤1000:=by decide
section
variable {w0:World} {S0:Nat→Prop} {κ0:Kap} {K:Nat→Prop} {S S':Nat→Prop} {κ κ':Kap} {a:Act} {w w':World}
theorem wkStep {j:Nat} {st st':St} {M:Nat→Option Mem} {κd:Nat→Kap} (hr:regOf j wkC=some (.region j (wkO j) (wkD j))) (ht:tReg zaD zT j st=some st')
  (h:Now w0 S0 κ0 K zaD.fn.ntmps M κd st a w) {Q:Exit→Act→World→Prop} (hQ:∀ a' w',Now w0 S0 κ0 K zaD.fn.ntmps M κd st' a' w'→Q .normal a' w'):(Code.region j (wkO j) (wkD j)).wp zaD.P Q a w:=by
 obtain ⟨S,κ,h1,h2⟩:=h; exact leafR wk_hb hr ht wk_n h1 (fun a' w' S' κ' hg hS hf hw=>hQ a' w' ⟨S',κ',hg,h2.step hS hf hw⟩)
end
abbrev deskM (d:zaf):Mem:=[(300,⟨14,za6,[[I d.level,.row 301 10 0 ((List.map zaj d.marks).length),I d.period,I d.started.Time,I d.started.Source,I d.started.Seq,.map 302,AV.sl 1 (List.map nBool d.watch.Last),B d.watch.Suspended,I d.good.Time,I d.good.Source,I d.good.Seq,B d.some,.row 303 12 0 ((List.map zah d.suspensions).length)]],true⟩),(301,⟨10,za7,List.map zaj d.marks,false⟩),(302,⟨0,zaJ,List.map zaq d.noted,false⟩),(303,⟨12,zas,List.map zah d.suspensions,false⟩)]
abbrev mems (ds:Desks):Nat→Option Mem:=fun i=>(ds i).map deskM
def Points (ds:Desks) (κd:Nat→Kap) (x:Nat→Option Addr):Prop:=∀ i,i < 100→match ds i with
 | none=>x i=none
 | some _=>∃ g c,κd i 300=some (g,c)∧x i=some ⟨g,0,none⟩
set_option maxRecDepth 100000
noncomputable section
abbrev tH (s:zay) (ev:List zab) (i:Int):Tab:=[(1,AV.sl 9 (List.map zaa ev)),(2,AV.loc 2 9 0 0),(6,AV.loc 18 100 0 0),(20,AV.sl 5 (List.map zaR s.Markers)),(21,I ((List.map zaR s.Markers).length:Int)),(22,I i)]
abbrev bS (s:zay):Nat×Ent:=(2,⟨9,zaz,[zau s],true⟩)
abbrev bB (x:Nat→Option Addr):Nat×Ent:=(18,⟨100,zax,[cells x],true⟩)
abbrev stH (s:zay) (ev:List zab) (x:Nat→Option Addr) (i:Int):St:=⟨tH s ev i,[bS s,bB x]⟩
abbrev m5 (s:zay) (l:Int) (cs:List AV):Mem:=[bS s,(18,⟨100,zax,[cs],true⟩),(33,⟨14,za6,[[I l,.row 301 10 0 0,I 0,I 0,I 0,I 0,.map 302,AV.sl 1 [],B false,I 0,I 0,I 0,B false,.row 303 12 0 0]],true⟩),(301,⟨10,za7,[],false⟩),(302,⟨0,zaJ,[],false⟩),(303,⟨12,zas,[],false⟩)]
theorem ztu (x:Nat→Option Addr) (j:Nat) (hj:j < 100):(cells x)[j]?=some (.v (.pointer (x j))):=by unfold cells; rw [zcR,zmD hj]; rfl
theorem cells_set (x:Nat→Option Addr) (k:Nat) (p:Option Addr):(cells x).set k (.v (.pointer p))=cells fun i=>if i=k then p else x i:=by
 refine zjF fun j=>?_
 by_cases hj:j < 100
 · rw [ztu _ _ hj,zmO]; by_cases h:k=j
   · subst h; have hl:k < (cells x).length:=by unfold cells; simpa using hj
     simp [hl]
   · rw [if_neg h,ztu _ _ hj,if_neg (fun e=>h e.symm)]
 · have h1:∀ y,(cells y).length=100:=fun y=>by unfold cells; simp
   rw [zox (by rw [zoW,h1]; omega),zox (by rw [h1]; omega)]
section
variable {w0:World} {S0:Nat→Prop} {κ0:Kap} {K:Nat→Prop} {N:Nat} {a:Act} {w:World}
theorem wk_new {s:zay} {ev:List zab} {i l:Int} {x:Nat→Option Addr} {ds:Desks} {κd:Nat→Kap} {k:Nat} (hk:k < 100)
  (h:Now w0 S0 κ0 K N (mems ds) κd ⟨tH s ev i,m5 s l ((cells x).set k (.loc 33 14 0 0))⟩ a w) (hp:Points ds κd x):∃ κd' x',Now w0 S0 κ0 K N (mems (upd ds k (desk0 l))) κd' (stH s ev x' i) a w∧Points (upd ds k (desk0 l)) κd' x':=by
 obtain ⟨S,κ,hg,ho⟩:=h
 have h33:∃ g c,κ 33=some (g,c):=by
  have hE:=hg.ents 33 _ rfl
  cases hq:κ 33 with
  | some gc=>exact ⟨gc.1,gc.2,rfl⟩
  | none=>rw [hq] at hE; have:=(hE.1 (.inl rfl)).2.2; cases this
 obtain ⟨g,c,hκ⟩:=h33; have hl:k < (cells x).length:=by unfold cells; simpa using hk
 have g1:GoodS w0 S0 κ0 K N S κ ⟨tH s ev i,m5 s l (cells fun i=>if i=k then some ⟨g,0,none⟩ else x i)⟩ a w:=by
  have q:=Good.recell (B:=18) (j:=k) (cs:=(cells x).set k (.loc 33 14 0 0)) (a0:=.loc 33 14 0 0) (a1:=.v (.pointer (some ⟨g,0,none⟩))) hg rfl rfl rfl (by simp [hl]) (fun v hv=>by
   obtain ⟨g',c',_,hk',rfl⟩:=hv.loc_inv; rw [hκ] at hk'; injection hk' with hk'; injection hk' with e1 _; subst e1
   exact .c (.v _))
  have e:(fun b=>if b=18 then some ({ z:=100,e:=zax,es:=[((cells x).set k (.loc 33 14 0 0)).set k (.v (.pointer (some ⟨g,0,none⟩)))],box:=true }:Ent) else Ab.look (m5 s l ((cells x).set k (.loc 33 14 0 0))) b)=Ab.look (m5 s l (cells fun i=>if i=k then some ⟨g,0,none⟩ else x i)):=by
   funext b; rw [List.set_set,cells_set]; simp only [m5,bS,Ab.look]; by_cases h2:b=2
   · simp [h2]
   · by_cases h18:b=18
     · simp [h18]
     · simp [h2,h18]
  unfold GoodS; rw [← e]; exact q
 have o1:Objs w0 κ0 K S κ (Ab.look (m5 s l (cells fun i=>if i=k then some ⟨g,0,none⟩ else x i))) w (mems ds) κd:=ho.kap (fun b g c hl hk=>⟨b,c,by
  simp only [m5,bS,Ab.look] at hl ⊢; by_cases h2:b=2
  · simp [h2]
  · by_cases h18:b=18
    · simp [h18]
    · simpa [h2,h18] using hl,hk⟩)
 have g2:=g1.ren (b:=33) (s:=300) (by omega) (by omega) (by omega) rfl; have e2:renS 33 300 ⟨tH s ev i,m5 s l (cells fun i=>if i=k then some ⟨g,0,none⟩ else x i)⟩=⟨tH s ev i,[bS s,bB (fun i=>if i=k then some ⟨g,0,none⟩ else x i)]++deskM (desk0 l)⟩:=by kernel_rfl
 rw [e2] at g2
 have o2:Objs w0 κ0 K S (fun c=>if c=300 then κ 33 else κ c) (Ab.look ([bS s,bB (fun i=>if i=k then some ⟨g,0,none⟩ else x i)]++deskM (desk0 l))) w (mems ds) κd:=o1.kap (fun b g c hl hk=>by
  by_cases hb:b=300
  · rw [if_pos hb] at hk; exact ⟨33,c,rfl,hk⟩
  · rw [if_neg hb] at hk; refine ⟨b,c,?_,hk⟩; simp only [zrx,List.nil_append,m5,bS,bB,deskM,Ab.look] at hl ⊢
    repeat' split at hl
    all_goals first | (subst_vars; rfl) | exact absurd rfl hb | cases hl)
 have g3:=g2.trim [1,2,6,20,21,22] [300,301,302,303]; have e3:trim [1,2,6,20,21,22] [300,301,302,303] ⟨tH s ev i,[bS s,bB (fun i=>if i=k then some ⟨g,0,none⟩ else x i)]++deskM (desk0 l)⟩=stH s ev (fun i=>if i=k then some ⟨g,0,none⟩ else x i) i:=by kernel_rfl
 rw [e3] at g3
 have o3:=o2.away (i:=k) (md:=deskM (desk0 l)) (L':=Ab.look [bS s,bB (fun i=>if i=k then some ⟨g,0,none⟩ else x i)]) g2 (fun b ent hb=>by
   simp only [zrx,List.nil_append,bS,bB,deskM,Ab.look] at hb ⊢
   repeat' split at hb
   all_goals first | (subst_vars; simp at hb; done) | (subst_vars; simpa using hb) | cases hb) (zAF (by kernel_rfl)) (fun b hb=>by
   simp only [deskM,Ab.look] at hb
   repeat' split at hb
   all_goals first | omega | cases hb) (fun b hb=>by
   simp only [bS,bB,Ab.look] at hb
   repeat' split at hb
   all_goals first | (subst_vars; exact ⟨rfl,fun h=>by cases h⟩) | cases hb)
 have e4:(fun j=>if j=k then some (deskM (desk0 l)) else mems ds j)=mems (upd ds k (desk0 l)):=by funext j; simp only [mems,upd]; split <;> rfl
 rw [e4] at o3; refine ⟨_,_,⟨S,_,g3,o3⟩,fun j hj=>?_⟩; simp only [upd]; by_cases hjk:j=k
 · simp only [if_pos hjk]; exact ⟨g,c,by simpa using hκ,rfl⟩
 · simp only [if_neg hjk]; exact hp j hj
theorem zum {M:Nat→Option Mem} {κd:Nat→Kap} {st:St} (h:Now w0 S0 κ0 K N M κd st a w) {k:Nat} {n:Int} (hk:get st.t k=I n):cnt a k=n.toNat:=by obtain ⟨S,κ,h1,_⟩:=h; have:=h1.slots k; rw [hk] at this; unfold cnt; rw [this.v_inv]
theorem wk_markers {s:zay} {ev:List zab} (hm:∀ m∈s.Markers,0≤m.ID∧m.ID < 100) (hlen:s.Markers.length < 1000000) {κd0:Nat→Kap}
  (h:Now w0 S0 κ0 K zaD.fn.ntmps (fun _=>none) κd0 (stH s ev (fun _=>none) 0) a w) {Q:Exit→Act→World→Prop}
  (hQ:∀ a' w' κd x,Now w0 S0 κ0 K zaD.fn.ntmps (mems (seats s.Markers)) κd (stH s ev x s.Markers.length) a' w'→Points (seats s.Markers) κd x→Q .normal a' w'):(Code.block 0 (.loop (.seq (.region 3 (wkO 3) (wkD 3)) (.seq (.cond (.tmp 23) .skip (.exit 0)) (.seq (.block 1 (.seq (.region 4 (wkO 4) (wkD 4)) (.region 5 (wkO 5) (wkD 5)))) (.region 6 (wkO 6) (wkD 6))))))).wp zaD.P Q a w:=by
 refine wp_block (wp_loop (fun a w=>∃ k κd x,k≤s.Markers.length∧Now w0 S0 κ0 K zaD.fn.ntmps (mems (seats (s.Markers.take k))) κd (stH s ev x k) a w∧Points (seats (s.Markers.take k)) κd x)
  (fun a _=>s.Markers.length - cnt a 22) ⟨0,κd0,_,zkj _,h,fun _ _=>rfl⟩ ?_)
 rintro a w ⟨k,κd,x,hk,hn,hp⟩
 have hc0:cnt a 22=k:=by rw [zum hn (n:=(k:Int)) rfl]; simp
 refine wp_seq (wkStep wk_r3 (w3 s ev x _ _) hn (fun a1 w1 h1=>?_)); refine wp_seq (wp_cond (h1.bool (b:=decide ((k:Int) < (List.map zaR s.Markers).length)) rfl) ?_); by_cases hlt:k < s.Markers.length
 · rw [decide_eq_true (by simp; omega),if_pos rfl]; refine wp_skip ?_; have h2:=h1.trim [1,2,6,20,21,22] [] (st':=stH s ev x k) (by kernel_rfl); refine wp_seq (wp_block (wp_seq ?_)); have ht4:=w4 s ev x ((List.map zaR s.Markers).length:Int) (k:Int); rw [cPQ,zfJ,show ((k:Int)).toNat=k from rfl,zaC hlt,zaY] at ht4; refine wkStep wk_r4 ht4 h2 (fun a3 w3 h3=>?_); obtain ⟨hm0,hm1⟩:=hm _ (zbg hlt); generalize hmk:s.Markers[k]=m at h3 hm0 hm1; obtain ⟨id,cen,lev,cap,ps⟩:=m; obtain ⟨q,rfl⟩:∃ q:Nat,id=(q:Int):=⟨id.toNat,by simp only at hm0; omega⟩
   have hq:q < 100:=by simp only at hm1; omega
   refine wkStep wk_r5 (w5 q hq s ev x _ _ cen lev cap ps) h3 (fun a4 w4 h4=>?_); obtain ⟨κd',x',h5,hp'⟩:=wk_new hq h4 hp; refine wkStep wk_r6 (w6 s ev x' _ _) h5 (fun a6 w6 h6=>?_); rw [w6Q] at h6
   have e:seats (s.Markers.take (k+1))=upd (seats (s.Markers.take k)) q (desk0 lev):=by rw [aLiAs136 hlt,hmk]; simp [seats]
   refine ⟨⟨k+1,κd',x',hlt,by rw [e]; exact_mod_cast h6,by rw [e]; exact hp'⟩,?_⟩; have:cnt a6 22=k+1:=by rw [zum h6 (n:=(k:Int)+1) rfl]; omega
   show s.Markers.length - cnt a6 22 < s.Markers.length - cnt a 22; omega
 · rw [decide_eq_false (by simp; omega),iNs]; refine wp_exit ?_; have hkl:k=s.Markers.length:=by omega
   subst hkl; rw [zmC] at h1 hp; exact hQ _ _ _ _ (h1.trim [1,2,6,20,21,22] [] (by kernel_rfl)) hp
end
end
set_option maxRecDepth 100000
noncomputable section
def rows (x:Nat→Option Addr):List (List AV):=(List.range 100).map fun i=>[.v (.pointer (x i))]
theorem zm9 (x:Nat→Option Addr) (j:Nat) (hj:j < 100):(rows x)[j]?=some [.v (.pointer (x j))]:=by unfold rows; rw [zcR,zmD hj]; rfl
abbrev bA (x:Nat→Option Addr):Nat×Ent:=(18,⟨1,zax,rows x,false⟩)
abbrev bR (R:List (zar×zaM)):Nat×Ent:=(37,⟨0,zao,List.map zal R,false⟩)
abbrev bE (e:zab):Nat×Ent:=(11,⟨9,zac,[zaa e],true⟩)
abbrev bD (sd:GSeed):Nat×Ent:=(15,⟨2,zc5,[zbU sd],true⟩)
section
variable {w0:World} {S0:Nat→Prop} {κ0:Kap} {K:Nat→Prop} {N:Nat} {a:Act} {w:World}
theorem wk_toRow {s:zay} {ev:List zab} {x:Nat→Option Addr} {M:Nat→Option Mem} {κd:Nat→Kap} {i:Int} (h:Now w0 S0 κ0 K N M κd (stH s ev x i) a w):Now w0 S0 κ0 K N M κd ⟨[(1,AV.sl 9 (List.map zaa ev)),(2,AV.loc 2 9 0 0),(6,.loc 18 1 0 0)],[bS s,bA x]⟩ a w:=by
 obtain ⟨S,κ,hg,ho⟩:=h
 have h18:∃ g c,κ 18=some (g,c):=by
  have hE:=hg.ents 18 _ rfl
  cases hq:κ 18 with
  | some gc=>exact ⟨gc.1,gc.2,rfl⟩
  | none=>rw [hq] at hE; have:=(hE.1 (.inl rfl)).2.2; cases this
 obtain ⟨g,c,hκ⟩:=h18; have hE:=hg.ents 18 _ rfl; rw [hκ] at hE
 have h6:a.tmps.getD 6 undef=.pointer (some ⟨g,0,none⟩):=by obtain ⟨g',c',_,hk',e⟩:=(show VRel _ _ _ _ (.loc 18 100 0 0) _ from hg.slots 6).loc_inv; rw [hκ] at hk'; injection hk' with hk'; injection hk' with e1 _; subst e1; simpa using e
 have hl:(cells x).length=100:=by unfold cells; simp
 have hrow:=toRow hE (by unfold maxLen; omega) (xs:=rows x) (by rw [hl]; unfold rows; simp) (fun j y u hj hv=>by
  have hj':j < 100:=by rw [← hl]; exact (zbs.1 hj).1
  rw [ztu x j hj'] at hj; injection hj with hj; subst hj
  rw [hv.v_inv,zm9 x j hj'])
 have g1:=hg.swap (B:=18) (c2:=100) rfl (by omega) hκ hrow; have o1:=ho.swap (B:=18) (c2:=100) (e2:=⟨1,zax,rows x,false⟩) rfl hκ
 have g2:=g1.set 6 (.loc 18 1 0 0) (by
  rw [h6]; have:=VRel.loc (S:=S) (κ:=overK κ (fun _=>some (g,100)) (Ab.look [(18,⟨1,zax,rows x,false⟩)])) (D:=fun b=>(Ab.look ((18,⟨1,zax,rows x,false⟩) :: (del 18 (stH s ev x i)).m) b).isSome=true) (w:=w) 18 1 0 0 g 100 (by simp [Ab.look]) (by unfold overK; simp [Ab.look])
  simpa using this)
 exact Now.trim ⟨S,_,g2,o1⟩ [1,2,6] [] (by kernel_rfl)
abbrev e0D (d:zaf):Ent:=⟨14,za6,[[I d.level,.row 301 10 0 ((List.map zaj d.marks).length),I d.period,I d.started.Time,I d.started.Source,I d.started.Seq,.map 302,AV.sl 1 (List.map nBool d.watch.Last),B d.watch.Suspended,I d.good.Time,I d.good.Source,I d.good.Seq,B d.some,.row 303 12 0 ((List.map zah d.suspensions).length)]],true⟩
abbrev mrD (d:zaf):Mem:=[(301,⟨10,za7,List.map zaj d.marks,false⟩),(302,⟨0,zaJ,List.map zaq d.noted,false⟩),(303,⟨12,zas,List.map zah d.suspensions,false⟩)]
abbrev deskB (d:zaf):Mem:=(1300,e0D d) :: mrD d
theorem zwg {d:zaf} {b:Nat} (h:(Ab.look (mrD d) b).isSome=true):300 < b∧b < 304:=by
 simp only [mrD,Ab.look] at h
 repeat' split at h
 all_goals first | omega | cases h
theorem mrD_only (d:zaf) (Bn b:Nat) (ent:Ent) (h:Ab.look ((Bn,e0D d) :: mrD d) b=some ent) (hbx:ent.box=true):∀ cs∈ent.es,∀ x∈cs,only ((mrD d).map (·.1)) x=true:=by
 simp only [mrD,Ab.look] at h
 repeat' split at h
 all_goals first | cases h | skip
 · have e:∀ cs∈(e0D d).es,∀ x∈cs,only ((mrD d).map (·.1)) x=true:=fun cs hcs x hx=>by simp only [e0D,zcf] at hcs; subst hcs; have:∀ x∈[I d.level,.row 301 10 0 ((List.map zaj d.marks).length),I d.period,I d.started.Time,I d.started.Source,I d.started.Seq,.map 302,AV.sl 1 (List.map nBool d.watch.Last),B d.watch.Suspended,I d.good.Time,I d.good.Source,I d.good.Seq,B d.some,.row 303 12 0 ((List.map zah d.suspensions).length)],only [301,302,303] x=true:=zbQ.1 (by kernel_rfl); exact this x hx
   exact e
 all_goals cases hbx
theorem wk_desk {j k0 i:Nat} {t:Tab} {m:Mem} {st1 st2 stN:St} {d d':zaf} {x:Nat→Option Addr} {ds:Desks} {κd:Nat→Kap} (hr:regOf j wkC=some (.region j (wkO j) (wkD j)))
  (hn:Now w0 S0 κ0 K zaD.fn.ntmps (mems ds) κd ⟨t,m⟩ a w) (hp:Points ds κd x) (hi:i < 100) (hd:ds i=some d) (hk0:get t k0=.v (.pointer (x i))) (hm:∀ b,(Ab.look m b).isSome=true→b < 300)
  (ht:tReg0 zaD zT j ⟨(k0,.loc 1300 14 0 0) :: t,deskB d++m⟩=some st1) (h12:st2=st1∨(st2=renS 112 301 st1∧Ab.look st1.m 301=none))
  (hd':∀ b ent,Ab.look (deskB d') b=some ent→Ab.look st2.m b=some ent) (ks drop:List Nat) (e:trim ks drop st2=stN) (hN:∀ b,(Ab.look stN.m b).isSome=true→b < 300)
  {Q:Exit→Act→World→Prop} (hQ:∀ a' w' κd',Now w0 S0 κ0 K zaD.fn.ntmps (mems (upd ds i d')) κd' stN a' w'→Points (upd ds i d') κd' x→Q .normal a' w'):(Code.region j (wkO j) (wkD j)).wp zaD.P Q a w:=by
 obtain ⟨S,κ,hg,ho⟩:=hn; have hi':mems ds i=some ((300,e0D d) :: mrD d):=by simp [mems,hd]
 have hpi:=hp i hi; rw [hd] at hpi; obtain ⟨g,c,hκ,hx⟩:=hpi
 have hk0':a.tmps.getD k0 undef=.pointer (some ⟨g,0,none⟩):=by have:=hg.slots k0; rw [hk0,hx] at this; exact this.v_inv
 have hmr:∀ b,(Ab.look (mrD d) b).isSome=true→b < 1000∧b≠300∧Ab.look m b=none:=fun b hb=>by
  obtain ⟨q1,q2⟩:=zwg hb; refine ⟨by omega,by omega,?_⟩
  cases hq:Ab.look m b with
  | none=>rfl
  | some e=>have:=hm b (by simp [hq]); omega
 have hm':∀ b,(Ab.look m b).isSome=true→b < 1000:=fun b hb=>by have:=hm b hb; omega
 have h1:=hg.lend (B:=300) (ho.obj i _ hi') (fun b g c hb hk=>(ho.far i _ b g c hi' hb hk).1) hmr hm' (mrD_only d 300) (z:=14) hk0' hκ; refine ztZ (zrV (C:=zaD.C) (A:=zaD.F)) wk_n (zAQ wk_hb hr ht) ⟨S,_,h1⟩ ?_
 rintro a' w' ⟨S',κ1,hg1⟩
 have hg2:∃ κ2,GoodS w S (lentK κ (κd i) (mrD d) 300) (fun b=>(Ab.look (lentM (e0D d) (mrD d) m 300) b).isSome=true) zaD.fn.ntmps S' κ2 st2 a' w':=by
  rcases h12 with rfl | ⟨rfl,h301⟩
  · exact ⟨κ1,hg1⟩
  · exact ⟨_,GoodS.ren hg1 (by omega) (by omega) (by omega) h301⟩
 obtain ⟨κ2,hg2⟩:=hg2
 obtain ⟨r1,r2⟩:=lent_back (B:=300) (e0':=e0D d') (mr':=mrD d') hg ho hi' hmr hm' hg2 hd' (fun b hb=>by have:=zwg hb; omega) (mrD_only d' 1300) ks drop e (fun b hb=>by
  refine ⟨by rw [← e] at hb; exact ztS ks drop st2 b hb,fun hq=>?_,by have:=hN b hb; omega⟩; have:=hN b hb; rcases look_two hq with h | h
  · omega
  · have:=zwg h; omega)
 have e4:(fun j=>if j=i then some ((300,e0D d') :: mrD d') else mems ds j)=mems (upd ds i d'):=by funext j; simp only [mems,upd]; split <;> rfl
 rw [e4] at r2; refine hQ _ _ _ ⟨S',_,r1,r2⟩ (fun j hj=>?_); simp only [upd]; by_cases hji:j=i
 · simp only [if_pos hji]; subst hji; exact ⟨g,c,by unfold homeK; simpa using hκ,hx⟩
 · simp only [if_neg hji]; exact hp j hj
end
end
set_option maxRecDepth 100000
noncomputable section
def zM (d:zaf):Mem:=[(1000,⟨14,za6,[[I d.level,.row 900 10 0 ((List.map zaj d.marks).length),I d.period,I d.started.Time,I d.started.Source,I d.started.Seq,.map 901,AV.sl 1 (List.map nBool d.watch.Last),B d.watch.Suspended,I d.good.Time,I d.good.Source,I d.good.Seq,B d.some,.row 902 12 0 ((List.map zah d.suspensions).length)]],true⟩),(900,⟨10,za7,List.map zaj d.marks,false⟩),(901,⟨0,zaJ,List.map zaq d.noted,false⟩),(902,⟨12,zas,List.map zah d.suspensions,false⟩)]
structure Legs (s:zay) where
 rein:zaM→zaf→zaf
 note:zaE→GSeed→zab→zaf→zaf
 fit:zab→Option Nat
 seed:Int→Option GSeed
 ok:zab→Prop
 D:Nat→zaf→Prop
 ranges:∀ e,ok e→(0≤e.Marker∧e.Marker < 100)∧0≤e.Stamp.Source∧e.Stamp.Source < 100
 D0:∀ l,D 0 (desk0 l)
 Dup:∀ k d,D k d→D (k+1) d
 Dlen:∀ k d,D k d→d.marks.length≤k
 Drein:∀ k d e,ok e→D k d→D (k+1) (rein e.Stamp d)
 Dnote:∀ k d p sd e,ok e→D k d→D (k+1) (note p sd e d)
 Dapp:∀ k d e,ok e→D k d→D (k+1) { d with marks:=d.marks++[⟨e,d.watch.Suspended⟩] }
 fit_lt:∀ e q,fit e=some q→q < s.Papers.length
 cRein:∀ k d e,k < 1000000→ok e→D k d→cw zeB [.loc 1000 14 0 0,.agg (zbI e.Stamp)] (zM d)=some (zbN (rein e.Stamp d))
 cNote:∀ k d p sd e,k < 1000000→ok e→D k d→p∈s.Papers→(∃ q,fit e=some q∧s.Papers[q]?=some p)→seed e.Script=some sd→cw zgn [.loc 1000 14 0 0,.agg (zau s),.agg (zaL p),.agg (zbU sd),.agg (zaa e)] (zM d)=some (zbN (note p sd e d))
 cFits:∀ x e,ok e→cw zfS [.fa 1 (rows x),.agg (zau s),.agg (zaa e)] []=some (zeI (match x e.Stamp.Source.toNat,fit e with
  | some p,some q=>((q:Int),some p)
  | _,_=>(0,none)))
 cSeed:∀ n,cw zia [.agg (zau s),I n] []=some (zgg ((seed n).getD ⟨0,[]⟩,(seed n).isSome))
def evG {s:zay} (g:Legs s) (st:Desks×Reop) (e:zab):Desks×Reop:=
 if e.Kind=1 then (match st.1 e.Marker.toNat with
  | some d=>(upd st.1 e.Marker.toNat (g.rein e.Stamp d),st.2)
  | none=>st)
 else if e.Kind=2 then (st.1,mput ⟨e.Script,e.Part⟩ e.Stamp st.2)
 else if e.Kind=0 then (match st.1 e.Stamp.Source.toNat,g.fit e with
  | some d,some q=>(match g.seed e.Script,s.Papers[q]? with
    | some sd,some p=>(upd st.1 e.Stamp.Source.toNat (g.note p sd e d),st.2)
    | none,_=>(upd st.1 e.Stamp.Source.toNat { d with marks:=d.marks++[⟨e,d.watch.Suspended⟩] },st.2)
    | _,_=>st)
  | _,_=>st)
 else st
abbrev tE (ev:List zab) (i:Int):Tab:=[(2,AV.loc 2 9 0 0),(6,AV.loc 18 1 0 0),(9,AV.map 37),(38,AV.sl 9 (List.map zaa ev)),(39,I ((List.map zaa ev).length:Int)),(40,I i)]
abbrev stE (s:zay) (ev:List zab) (x:Nat→Option Addr) (R:Reop) (i:Int):St:=⟨tE ev i,[bS s,bA x,bR R]⟩
section
variable {w0:World} {S0:Nat→Prop} {κ0:Kap} {K:Nat→Prop} {a:Act} {w:World}
theorem zir {m:Mem} (h:m.all (fun p=>decide (p.1 < 300))=true):∀ b,(Ab.look m b).isSome=true→b < 300:=fun b hb=>by obtain ⟨ent,he⟩:=zb0.1 hb; have:=zbQ.1 h (b,ent) (zih he); simpa using this
theorem wk_event {s:zay} {ev:List zab} (g:Legs s) {k:Nat} {ds:Desks} {R:Reop} {x:Nat→Option Addr} {κd:Nat→Kap} (hk:k < ev.length) (hok:g.ok ev[k]) (hev:ev.length < 1000000)
  (h:Now w0 S0 κ0 K zaD.fn.ntmps (mems ds) κd (stE s ev x R k) a w) (hp:Points ds κd x) (hD:∀ i d,ds i=some d→g.D k d) {Q:Exit→Act→World→Prop}
  (hQ:∀ a' w' κd',Now w0 S0 κ0 K zaD.fn.ntmps (mems (evG g (ds,R) ev[k]).1) κd' (stE s ev x (evG g (ds,R) ev[k]).2 k) a' w'→Points (evG g (ds,R) ev[k]).1 κd' x→Q .normal a' w'):(Code.block 3 (.seq (.region 10 (wkO 10) (wkD 10)) (.seq (.region 11 (wkO 11) (wkD 11)) (.block 4 (.seq (.region 12 (wkO 12) (wkD 12)) (.cond (.tmp 46) (.seq (.region 13 (wkO 13) (wkD 13)) (.seq (.region 14 (wkO 14) (wkD 14)) (.cond (.tmp 55) (.region 15 (wkO 15) (wkD 15)) .skip))) (.seq (.region 16 (wkO 16) (wkD 16)) (.cond (.tmp 60) (.region 17 (wkO 17) (wkD 17)) (.seq (.region 18 (wkO 18) (wkD 18)) (.cond (.tmp 70) (.seq (.region 19 (wkO 19) (wkD 19)) (.seq (.seq (.region 20 (wkO 20) (wkD 20)) (.cond (.tmp 80) (.exit 3) .skip)) (.seq (.region 21 (wkO 21) (wkD 21)) (.seq (.region 22 (wkO 22) (wkD 22)) (.cond (.tmp 88) (.region 23 (wkO 23) (wkD 23)) (.region 24 (wkO 24) (wkD 24))))))) .skip)))))))))).wp zaD.P Q a w:=by
 refine wp_block (wp_seq ?_); have ht:=w10 s ev (rows x) (List.map zal R) ((List.map zaa ev).length:Int) (k:Int); rw [cPQ,zdf,show ((k:Int)).toNat=k from rfl,zaC hk,zaY] at ht; refine wkStep wk_r10 ht h (fun a1 w1 h1=>?_); obtain ⟨⟨hm0,hm1⟩,hs0,hs1⟩:=g.ranges _ hok; generalize ev[k]=e at h1 hok hQ hm0 hm1 hs0 hs1; refine wp_seq (wkStep wk_r11 (w11 s ev _ _ _ _ e) h1 (fun a2 w2 h2=>?_)); refine wp_block (wp_seq (wkStep wk_r12 (w12 s ev _ _ _ _ e) h2 (fun a3 w3 h3=>?_))); refine wp_cond (h3.bool (b:=e.Kind == 1) rfl) ?_; by_cases k1:e.Kind=1
 ·
  rw [if_pos (by simp [k1])]; have h4:=h3.trim [2,6,9,11,38,39,40] [] (st':=⟨[(2,AV.loc 2 9 0 0),(6,AV.loc 18 1 0 0),(9,AV.map 37),(11,AV.loc 11 9 0 0),(38,AV.sl 9 (List.map zaa ev)),(39,I ((List.map zaa ev).length:Int)),(40,I k)],[bS s,bE e,bA x,bR R]⟩) (by kernel_rfl); have ht13:=w13 s ev (rows x) (List.map zal R) ((List.map zaa ev).length:Int) (k:Int) e; have hi:e.Marker.toNat < 100:=by omega
  have hrow:=zm9 x (0+e.Marker.toNat) (by omega); rw [zb5] at hrow; rw [zan hm0,zan (by simpa using hm1),zb5] at ht13; have hpi:=hp _ hi
  cases hdi:ds e.Marker.toNat with
  | none =>
    rw [hdi] at hpi; rw [hpi] at hrow; rw [zpQ hrow] at ht13; refine wp_seq (wkStep wk_r13 ht13 h4 (fun a5 w5 h5=>?_)); refine wp_seq (wkStep wk_r14 (w14n s ev _ _ _ _ e) h5 (fun a6 w6 h6=>?_)); refine wp_cond (h6.bool (b:=false) rfl) ?_; rw [iNs]; refine wp_skip ?_; have h7:=h6.trim [2,6,9,38,39,40] [11] (st':=stE s ev x R k) (by kernel_rfl)
    have e1:evG g (ds,R) e=(ds,R):=by unfold evG; rw [if_pos k1]; simp only [hdi]
    rw [e1] at hQ; exact hQ _ _ _ h7 hp
  | some d =>
    have hpi':=hpi; rw [hdi] at hpi; obtain ⟨g1,c1,hκ,hx⟩:=hpi; rw [hx] at hrow; rw [zyd hrow] at ht13; refine wp_seq (wkStep wk_r13 ht13 h4 (fun a5 w5 h5=>?_)); refine wp_seq (wkStep wk_r14 (w14p s ev _ _ _ _ e _) h5 (fun a6 w6 h6=>?_)); refine wp_cond (h6.bool (b:=true) rfl) ?_; rw [if_pos rfl]; have h7:=h6.trim [2,6,9,11,12,38,39,40] [] (st':=⟨[(2,AV.loc 2 9 0 0),(6,AV.loc 18 1 0 0),(9,AV.map 37),(11,AV.loc 11 9 0 0),(12,AV.v (.pointer (some ⟨g1,0,none⟩))),(38,AV.sl 9 (List.map zaa ev)),(39,I ((List.map zaa ev).length:Int)),(40,I k)],[bS s,bE e,bA x,bR R]⟩) (by kernel_rfl); have ht15:=w15 s ev (rows x) (List.map zal R) ((List.map zaa ev).length:Int) (k:Int) e ⟨g1,0,none⟩ d; rw [zan rfl,zan rfl] at ht15; have hc:=g.cRein k d e (by omega) hok (hD _ d hdi); unfold zM at hc; rw [hc,ze8] at ht15; refine wk_desk (k0:=12) wk_r15 h7 hp hi hdi (by rw [hx]; rfl) (zir (by kernel_rfl)) ht15 (.inl rfl) (d':=g.rein e.Stamp d) (fun b ent hb=>?_) [2,6,9,38,39,40] [11,1300,301,302,303] (stN:=stE s ev x R k) (by kernel_rfl) (zir (by kernel_rfl)) (fun a8 w8 κd8 h8 hp8=>?_)
    · simp only [deskB,mrD,e0D,Ab.look] at hb ⊢
      repeat' split at hb
      all_goals first | (subst_vars; simp at hb; done) | (subst_vars; simpa using hb) | cases hb
    · have e1:evG g (ds,R) e=(upd ds e.Marker.toNat (g.rein e.Stamp d),R):=by unfold evG; rw [if_pos k1]; simp only [hdi]
      rw [e1] at hQ; exact hQ _ _ _ h8 hp8
 rw [if_neg (by simpa using k1)]; have h4:=h3.trim [2,6,9,11,38,39,40,45] [] (st':=⟨[(2,AV.loc 2 9 0 0),(6,AV.loc 18 1 0 0),(9,AV.map 37),(11,AV.loc 11 9 0 0),(38,AV.sl 9 (List.map zaa ev)),(39,I ((List.map zaa ev).length:Int)),(40,I k),(45,I e.Kind)],[bS s,bE e,bA x,bR R]⟩) (by kernel_rfl); refine wp_seq (wkStep wk_r16 (w16 s ev _ _ _ _ e) h4 (fun a5 w5 h5=>?_)); refine wp_cond (h5.bool (b:=e.Kind == 2) rfl) ?_; by_cases k2:e.Kind=2
 ·
  rw [if_pos (by simp [k2])]; have h6:=h5.trim [2,6,9,11,38,39,40] [] (st':=⟨[(2,AV.loc 2 9 0 0),(6,AV.loc 18 1 0 0),(9,AV.map 37),(11,AV.loc 11 9 0 0),(38,AV.sl 9 (List.map zaa ev)),(39,I ((List.map zaa ev).length:Int)),(40,I k)],[bS s,bE e,bA x,bR R]⟩) (by kernel_rfl); have ht17:=w17 s ev (rows x) R ((List.map zaa ev).length:Int) (k:Int) e; rw [zmw] at ht17; refine wkStep wk_r17 ht17 h6 (fun a7 w7 h7=>?_)
  have e1:evG g (ds,R) e=(ds,mput ⟨e.Script,e.Part⟩ e.Stamp R):=by unfold evG; rw [if_neg k1,if_pos k2]
  rw [e1] at hQ; exact hQ _ _ _ (h7.trim [2,6,9,38,39,40] [11] (by kernel_rfl)) hp
 rw [if_neg (by simpa using k2)]; have h6:=h5.trim [2,6,9,11,38,39,40,45] [] (st':=⟨[(2,AV.loc 2 9 0 0),(6,AV.loc 18 1 0 0),(9,AV.map 37),(11,AV.loc 11 9 0 0),(38,AV.sl 9 (List.map zaa ev)),(39,I ((List.map zaa ev).length:Int)),(40,I k),(45,I e.Kind)],[bS s,bE e,bA x,bR R]⟩) (by kernel_rfl); refine wp_seq (wkStep wk_r18 (w18 s ev _ _ _ _ e) h6 (fun a7 w7 h7=>?_)); refine wp_cond (h7.bool (b:=e.Kind == 0) rfl) ?_; by_cases k3:¬ e.Kind=0
 ·
  rw [if_neg (by simpa using k3)]; refine wp_skip ?_
  have e1:evG g (ds,R) e=(ds,R):=by unfold evG; rw [if_neg k1,if_neg k2,if_neg k3]
  rw [e1] at hQ; exact hQ _ _ _ (h7.trim [2,6,9,38,39,40] [11] (by kernel_rfl)) hp
 replace k3:=Decidable.not_not.1 k3; rw [if_pos (by simp [k3])]; have h8:=h7.trim [2,6,9,11,38,39,40] [] (st':=⟨[(2,AV.loc 2 9 0 0),(6,AV.loc 18 1 0 0),(9,AV.map 37),(11,AV.loc 11 9 0 0),(38,AV.sl 9 (List.map zaa ev)),(39,I ((List.map zaa ev).length:Int)),(40,I k)],[bS s,bE e,bA x,bR R]⟩) (by kernel_rfl); have ht19:=w19 s ev (rows x) (List.map zal R) ((List.map zaa ev).length:Int) (k:Int) e; rw [zan (by unfold rows; simp),g.cFits x e hok,zpb] at ht19; have hi:e.Stamp.Source.toNat < 100:=by omega
 have hpi:=hp _ hi
 have noDesk:(x e.Stamp.Source.toNat=none∨g.fit e=none)→(Code.seq (.region 19 (wkO 19) (wkD 19)) (.seq (.seq (.region 20 (wkO 20) (wkD 20)) (.cond (.tmp 80) (.exit 3) .skip)) (.seq (.region 21 (wkO 21) (wkD 21)) (.seq (.region 22 (wkO 22) (wkD 22)) (.cond (.tmp 88) (.region 23 (wkO 23) (wkD 23)) (.region 24 (wkO 24) (wkD 24))))))).wp zaD.P (Exit.inBlock 4 (Exit.inBlock 3 Q)) a7 w7:=by
  intro hno
  have e0:(match x e.Stamp.Source.toNat,g.fit e with
   | some p,some q=>((q:Int),some p)
   | _,_=>((0:Int),none))=((0:Int),(none:Option Addr)):=by
   rcases hno with q | q
   · rw [q]
   · rw [q]; cases x e.Stamp.Source.toNat <;> rfl
  rw [e0] at ht19; refine wp_seq (wkStep wk_r19 ht19 h8 (fun a9 w9 h9=>?_)); refine wp_seq (wp_seq (wkStep wk_r20 (w20n s ev _ _ _ _ e 0) h9 (fun a10 w10 h10=>?_))); refine wp_cond (h10.bool (b:=true) rfl) ?_; rw [if_pos rfl]; refine wp_exit ?_
  have e1:evG g (ds,R) e=(ds,R):=by
   unfold evG; rw [if_neg k1,if_neg k2,if_pos k3]; rcases hno with q | q
   · have:ds e.Stamp.Source.toNat=none:=by
      cases hq:ds e.Stamp.Source.toNat with
      | none=>rfl
      | some d=>rw [hq] at hpi; obtain ⟨_,_,_,hx⟩:=hpi; rw [q] at hx; cases hx
     simp only [this]
   · simp only [q]; cases ds e.Stamp.Source.toNat <;> rfl
  rw [e1] at hQ; exact hQ _ _ _ (h10.trim [2,6,9,38,39,40] [11] (by kernel_rfl)) hp
 cases hdi:ds e.Stamp.Source.toNat with
 | none=>rw [hdi] at hpi; exact noDesk (.inl hpi)
 | some d =>
   cases hf:g.fit e with
   | none=>exact noDesk (.inr hf)
   | some q =>
     rw [hdi] at hpi; obtain ⟨g1,c1,hκ,hx⟩:=hpi; rw [hx,hf] at ht19; refine wp_seq (wkStep wk_r19 ht19 h8 (fun a9 w9 h9=>?_)); refine wp_seq (wp_seq (wkStep wk_r20 (w20p s ev _ _ _ _ e q ⟨g1,0,none⟩) h9 (fun a10 w10 h10=>?_))); refine wp_cond (h10.bool (b:=false) rfl) ?_; rw [iNs]; refine wp_skip ?_; have h11:=h10.trim [2,6,9,11,13,14,38,39,40] [] (st':=⟨[(2,AV.loc 2 9 0 0),(6,AV.loc 18 1 0 0),(9,AV.map 37),(11,AV.loc 11 9 0 0),(13,I q),(14,AV.v (.pointer (some ⟨g1,0,none⟩))),(38,AV.sl 9 (List.map zaa ev)),(39,I ((List.map zaa ev).length:Int)),(40,I k)],[bS s,bE e,bA x,bR R]⟩) (by kernel_rfl); have ht21:=w21 s ev (rows x) (List.map zal R) ((List.map zaa ev).length:Int) (k:Int) e q ⟨g1,0,none⟩; rw [g.cSeed,zrT] at ht21; refine wp_seq (wkStep wk_r21 ht21 h11 (fun a12 w12 h12=>?_)); refine wp_seq (wkStep wk_r22 (w22 s ev _ _ _ _ e q ⟨g1,0,none⟩ _ _) h12 (fun a13 w13 h13=>?_)); refine wp_cond (h13.bool (b:=(g.seed e.Script).isSome) rfl) ?_; have h14:=h13.trim [2,6,9,11,13,14,15,38,39,40] [] (st':=⟨[(2,AV.loc 2 9 0 0),(6,AV.loc 18 1 0 0),(9,AV.map 37),(11,AV.loc 11 9 0 0),(13,I q),(14,AV.v (.pointer (some ⟨g1,0,none⟩))),(15,AV.loc 15 2 0 0),(38,AV.sl 9 (List.map zaa ev)),(39,I ((List.map zaa ev).length:Int)),(40,I k)],[bS s,bE e,bD ((g.seed e.Script).getD ⟨0,[]⟩),bA x,bR R]⟩) (by kernel_rfl); have hql:=g.fit_lt e q hf
     cases hsd:g.seed e.Script with
     | some sd =>
       rw [hsd] at h14; rw [if_pos (show (some sd).isSome=true from rfl)]; have ht23:=w23 s ev (rows x) (List.map zal R) ((List.map zaa ev).length:Int) (k:Int) e q ⟨g1,0,none⟩ sd d; rw [cPQ,zfu,show ((q:Int)).toNat=q from rfl,zaC hql,zaY,zan rfl,zan rfl] at ht23; have hc:=g.cNote k d s.Papers[q] sd e (by omega) hok (hD _ d hdi) (zbg hql) ⟨q,hf,zaC hql⟩ hsd; unfold zM at hc; rw [hc,ze8] at ht23; refine wk_desk (k0:=14) wk_r23 h14 hp hi hdi (by rw [hx]; rfl) (zir (by kernel_rfl)) ht23 (.inl rfl) (d':=g.note s.Papers[q] sd e d) (fun b ent hb=>?_) [2,6,9,38,39,40] [11,15,1300,301,302,303] (stN:=stE s ev x R k) (by kernel_rfl) (zir (by kernel_rfl)) (fun a8 w8 κd8 h8 hp8=>?_)
       · simp only [deskB,mrD,e0D,Ab.look] at hb ⊢
         repeat' split at hb
         all_goals first | (subst_vars; simp at hb; done) | (subst_vars; simpa using hb) | cases hb
       · have e1:evG g (ds,R) e=(upd ds e.Stamp.Source.toNat (g.note s.Papers[q] sd e d),R):=by unfold evG; rw [if_neg k1,if_neg k2,if_pos k3]; simp only [hdi,hf,hsd,zaC hql]
         rw [e1] at hQ; exact hQ _ _ _ h8 hp8
     | none =>
       rw [hsd] at h14; rw [iNs]; have ht24:=w24 s ev (rows x) (List.map zal R) ((List.map zaa ev).length:Int) (k:Int) e q ⟨g1,0,none⟩ ⟨0,[]⟩ d; have hdl:=g.Dlen _ _ (hD _ d hdi); rw [zan rfl,zan (by rw [zap]; omega)] at ht24; refine wk_desk (k0:=14) wk_r24 h14 hp hi hdi (by rw [hx]; rfl) (zir (by kernel_rfl)) ht24 (.inr ⟨rfl,by kernel_rfl⟩) (d':={ d with marks:=d.marks++[⟨e,d.watch.Suspended⟩] }) (fun b ent hb=>?_) [2,6,9,38,39,40] [11,15,1300,301,302,303] (stN:=stE s ev x R k) (by kernel_rfl) (zir (by kernel_rfl)) (fun a8 w8 κd8 h8 hp8=>?_)
       · have e2:List.map zaj (d.marks++[⟨e,d.watch.Suspended⟩])=List.map zaj d.marks++[zaj ⟨e,d.watch.Suspended⟩]:=by simp
         simp only [deskB,mrD,e0D,Ab.look,e2] at hb ⊢
         repeat' split at hb
         all_goals first | (subst_vars; rw [← hb]; rfl) | cases hb
       · have e1:evG g (ds,R) e=(upd ds e.Stamp.Source.toNat { d with marks:=d.marks++[⟨e,d.watch.Suspended⟩] },R):=by unfold evG; rw [if_neg k1,if_neg k2,if_pos k3]; simp only [hdi,hf,hsd]
         rw [e1] at hQ; exact hQ _ _ _ h8 hp8
end
end
end Go.Proofs.YtikogkgdkdmljaaGreat
end
