/- slices.Grow answers as said, where there was nothing. -/
import Derived.Test.YtlecnobdfhlmnaaGreatXAnn
import Derived.Test.YtlecnobdfhlmnaaGreatJ4
set_option linter.unusedSimpArgs false
set_option linter.unusedVariables false
noncomputable section
namespace Go.Proofs.YtlecnobdfhlmnaaGreat
open Go.Ab Go.Shelf
set_option maxRecDepth 20000
def layW_ren:Go.Shelf.Ren:=⟨fun | 4=>148 | n=>n,fun | 22=>37 | 25=>85 | 3=>3 | 4=>4 | 9=>9 | 20=>20 | 0=>0 | n=>n,fun | n=>n⟩
theorem layW:Go.Proofs.Lays8.n4 Tryz.prog layW_ren:={ mixed:=by kernel_rfl,f4:=⟨Tryz.f148.name,by decide,Tryz.func148.trans (congrArg some (by kernel_rfl))⟩,t0:=Tryz.underlying0,a0:=Tryz.isAgg0,z0:=Tryz.sizeOf0,v0:=Tryz.zeroValue0,t3:=Tryz.underlying3,a3:=Tryz.isAgg3,z3:=Tryz.sizeOf3,v3:=Tryz.zeroValue3,t4:=Tryz.underlying4,a4:=Tryz.isAgg4,z4:=Tryz.sizeOf4,v4:=Tryz.zeroValue4,t9:=Tryz.underlying9,a9:=Tryz.isAgg9,z9:=Tryz.sizeOf9,v9:=Tryz.zeroValue9,t20:=Tryz.underlying20,a20:=Tryz.isAgg20,z20:=Tryz.sizeOf20,v20:=Tryz.zeroValue20,t22:=Tryz.underlying37,a22:=Tryz.isAgg37,z22:=Tryz.sizeOf37,v22:=Tryz.zeroValue37 }
theorem growE_ok:CallOK zP (single zcA zOrc):=by
 have h:(zP.info? zah).map (fun i=>(i.zero.map (·.cells.size),i.size,i.bytes))=some (some 9,9,88):=by kernel_rfl
 cases hi:zP.info? zah with
 | none=>rw [hi] at h; cases h
 | some i0=>rw [hi] at h; simp only [zde,zaU,zbl] at h; obtain ⟨h1,h2,h3⟩:=h; obtain ⟨zv,hz,h4⟩:=zf7.1 h1; exact grow_ok layW rfl hi hz (h4.trans h2.symm) (by omega) (by omega) (by kernel_rfl) (fun args ms=>by rw [h2]; unfold zOrc; simp (decide:=true) only [if_false,if_true]; rfl)
theorem c_GrowE (n:Int) (h:0≤n∧n≤1000000):cw zcA [.v (.slice none 0 0),I n] []=some (zdh []):=by
 refine zft growE_ok ?_
 have:oGrow 9 zah [.v (.slice none 0 0),I n]=some (zdh []):=by show (if 0≤n∧n≤1000000 then some (AV.new 9 zah [],([]:Mem)) else none)=_; rw [if_pos h]; rfl
 show zOrc zcA [.v (.slice none 0 0),I n] []=_; unfold zOrc; simp (decide:=true) only [if_false,if_true]; exact this
end Go.Proofs.YtlecnobdfhlmnaaGreat
namespace Go.Proofs.YtlecnobdfhlmnaaGreat
open Go.Ab
set_option maxRecDepth 20000
def countingS (m:zaG) (sc pa:Int):List zbb:=m.Given.filter fun g=>g.Script == sc && g.Part == pa
theorem c_Counting (m:zaG) (sc pa:Int) (hl:m.Given.length≤1000000):cw zia [.agg (zaK m),I sc,I pa] []=some (zmF (countingS m sc pa)):=by
 refine zwn m sc pa ?_
 have key:∀ (n i:Nat) (out:List zbb),i+n=m.Given.length→out.length≤i→zeE m sc pa (List.map za7 out) i=some (zmF (out++(m.Given.drop i).filter fun g=>g.Script == sc && g.Part == pa)):=by
  intro n
  induction n with
  | zero=>intro i out hi ho; refine zob _ _ _ _ _ ?_; rw [zaq,zaW (by omega),zam rfl,zmW (by omega)]; simp; rfl
  | succ n ih =>
    intro i out hi ho; have hlt:i < m.Given.length:=by omega
    refine zob _ _ _ _ _ ?_; rw [zaq,zaC (by omega),cPQ,zbf,zgI,zau hlt,zaS,w6Q,show ((i:Int)+1)=((i+1:Nat):Int) by omega,zhX hlt,zgb]
    cases h1:(m.Given[i].Script == sc) with
    | false=>rw [zaB,zjb,iNs]; exact ih (i+1) out (by omega) (by omega)
    | true =>
      cases h2:(m.Given[i].Part == pa) with
      | false=>rw [zaZ,zaB,zt0,iNs]; exact ih (i+1) out (by omega) (by omega)
      | true=>rw [zaZ,zaZ,zqW,if_pos rfl,zam rfl,zam (by simp only [zaq]; omega),zam rfl,zcS za7]; have:=ih (i+1) (out++[m.Given[i]]) (by omega) (by simp; omega); rw [zi9] at this; exact this
 have:=key m.Given.length 0 [] (by omega) (by simp); rw [zta,zoy] at this; exact this
theorem c_CountG (m:zaG) (n p:Int) (hl:m.Given.length≤1000000):cw zia [.agg (zaK m),I n,I p] []=some (zmF (countG m n p)):=c_Counting m n p hl
theorem zAW {s:zak} (hs:zbP s) {n:Int} {i:Nat} {y:GSeed} (h:seedOf s.Seeds n=some (i,y)):∃ k p,zgX s n=some (k,p)∧zqt p y.Marks:=by obtain ⟨h1,h2,_⟩:=fnd_at h; obtain ⟨k,p,h3,h4⟩:=hs.seed y (zb1 h1); simp only [beq_iff_eq] at h2; rw [h2] at h3; exact ⟨k,p,h3,h4⟩
theorem zjr (g:zbb):0≤worth g:=by unfold worth; split <;> omega
theorem zqG (g:zbb):cw zdn [.agg (za7 g)] []=some (zbw (worth g)):=zvw g rfl
theorem c_decisive (l:List zbb) (hl:l.length≤1000000):cw ziI [.sl 8 (List.map za7 l)] []=some (zgB (zoM l)):=by
 refine zsy l ?_; refine zsc l (fun i r=>∀ (b:zbb) (f:Bool),zcE l b f (i:Nat)=some (zgB (r.foldl stepD (b,f)))) ?_ ?_ _ _
 · intro b f; refine zlC l b f _ ?_; rw [zaq,zdR,iNQ]; rfl
 · intro i x r hi hx hr ih b f; refine zlC l b f _ ?_; rw [zaq,zdR,iPQ,cPQ,zbf,zgI,zau hi,zaS,hx,w6Q]; have e1:((i:Int)+1)=((i+1:Nat):Int):=by omega
   rw [e1,ih,ih,ztk _ _,za3,zdR,zdR,zdR,zlL]; unfold stepD; by_cases h1:x.Level < 2
   · rw [if_pos h1,if_pos h1]
   · rw [if_neg h1,if_neg h1]
     cases f with
     | false=>simp
     | true =>
       simp only [zb6,zaB,Bool.true_eq_false,false_or]; by_cases h2:b.Level < x.Level
       · rw [if_pos h2,if_pos (.inl h2)]
       · rw [if_neg h2]; by_cases h3:x.Level=b.Level
         · simp only [h3,beq_self_eq_true,zaZ]; by_cases h4:0≤cmpS x.Stamp b.Stamp
           · rw [if_pos h4,if_pos (.inr ⟨trivial,h4⟩)]
           · rw [if_neg h4,if_neg (by rintro (h | h) <;> first | omega | exact h4 h.2)]
         · rw [show (x.Level == b.Level)=false by simpa using h3,zaB,if_neg (by rintro (h | h) <;> first | omega | exact h3 h.1)]
theorem c_Div64 (a b:Int) (ha:0≤a) (ha2:a < 18446744073709551616) (hb:0 < b):cw zri [.v (.int .u64 0),.v (.int .u64 a),.v (.int .u64 b)] []=some (zrz (a.tdiv b,a.tmod b)):=by
 refine zDJ a b ?_; have h1:(b == 0)=false:=by simpa using (show b≠0 by omega)
 have h2:0≤a.tdiv b:=Int.tdiv_nonneg ha (by omega); have h3:a.tdiv b≤a:=Int.tdiv_le_self b ha; rw [h1,zaB,zdR,iNQ,cPQ,cPQ,ztQ h2 (by omega)]; rfl
theorem sumW_acc (l:List zbb) (s:Int):l.foldl (fun s g=>s+worth g) s=s+sumW l:=by
 unfold sumW
 induction l generalizing s with
 | nil=>simp
 | cons g r ih=>simp only [zlL]; rw [ih,ih (0+worth g)]; omega
theorem zwN (g:zbb) (l:List zbb):sumW (g :: l)=worth g+sumW l:=by have:=sumW_acc l (0+worth g); unfold sumW at this ⊢; simp only [zlL]; rw [this]; omega
theorem zsU (l:List zbb):0≤sumW l:=by
 induction l with
 | nil=>simp [sumW]
 | cons g r ih=>rw [zwN]; have:=zjr g; omega
theorem sumW_le (l:List zbb) (M:Int) (h:∀ g∈l,worth g≤M):sumW l≤l.length*M:=by
 induction l with
 | nil=>simp [sumW]
 | cons g r ih =>
   have h1:=ih (fun g hg=>h g (by simp [hg])); have h2:=h g (by simp); rw [zwN,zgc]
   have:((r.length+1:Nat):Int)*M=r.length*M+M:=by rw [zov,zqV]; simp
   omega
theorem c_mean (l:List zbb) (hl:l.length≤1000000) (h0:l≠[]) (hv:∀ g∈l,g.Value≤1099511627776):cw zli [.sl 8 (List.map za7 l)] []=some (zbw (mean l)):=by
 have hw:∀ g∈l,worth g≤1099511627776:=fun g hg=>by have:=hv g hg; unfold worth; split <;> omega
 have hpos:0 < l.length:=zyx.2 h0
 have hs:sumW l≤1099511627776000000:=by have h1:=sumW_le l _ hw; have h2:(l.length:Int)*1099511627776≤1000000*1099511627776:=Int.mul_le_mul_of_nonneg_right (by omega) (by omega); omega
 have hs0:=zsU l; refine zwk l ?_; refine zsc l (fun i r=>∀ (s:Int),0≤s→s+sumW r=sumW l→zhd l 0 s (i:Nat)=some (zbw (mean l))) ?_ ?_ 0 (by omega) (by omega)
 · intro s hs' he; have hse:s=sumW l:=by simpa [sumW] using he
   refine zn7 l _ _ _ ?_; rw [zaq,zdR,iNQ,ztQ (by omega) (by omega),c_Div64 s l.length hs' (by omega) (by omega),zyT,zdR]; have h1:0≤s.tmod l.length:=Int.tmod_nonneg _ hs'; have h2:s.tmod l.length < l.length:=ztW _ (by omega); have h3:0≤s.tdiv l.length:=Int.tdiv_nonneg hs' (by omega); have h4:s.tdiv l.length≤s:=Int.tdiv_le_self _ hs'; rw [ztQ (by show 0≤2*s.tmod l.length; omega) (by show 2*s.tmod l.length < _; omega)]; show (if (l.length:Int)≤2*s.tmod l.length then some (I (w64 (wu64 (s.tdiv l.length+1))),[]) else some (I (w64 (s.tdiv l.length)),[]))=_; rw [ztQ (by omega) (by omega),w6Q,w6Q,hse]; unfold mean; split <;> rfl
 · intro i x r hi hx hr ih s hs' he; refine zn7 l _ _ _ ?_; rw [zaq,zdR,iPQ,cPQ,zbf,zgI,zau hi,zaS,hx,zqG x,za3,w6Q]; have hx0:=zjr x; rw [zwN] at he; have hr0:=zsU r; rw [ztQ hx0 (by omega)]; have e2:(s.toNat+(worth x).toNat+Int.toNat 0) / 2 ^ 64=0:=zw0 (by simp; omega); have e3:(s.toNat+(worth x).toNat+Int.toNat 0) % 2 ^ 64=s.toNat+(worth x).toNat:=by rw [zqu (by simp; omega)]; simp
   rw [e2,e3]; have e4:Int.ofNat (s.toNat+(worth x).toNat)=s+worth x:=by simp; omega
   rw [e4,show wu64 (0+Int.ofNat 0)=0 from rfl]; have e1:((i:Int)+1)=((i+1:Nat):Int):=by omega
   rw [e1]; exact ih (s+worth x) (by omega) (by omega)
theorem minW_bd (l:List zbb):∀ (m:Int),0≤m→0≤minW l m∧minW l m≤m:=by
 induction l with
 | nil=>intro m hm; exact ⟨hm,zng _⟩
 | cons g r ih =>
   intro m hm; have hw:=zjr g; simp only [minW,zlL]; split
   · have:=ih (worth g) hw; unfold minW at this; omega
   · exact ih m hm
theorem maxW_bd (l:List zbb) (M:Int) (h:∀ g∈l,worth g≤M):∀ (m:Int),m≤M→m≤maxW l m∧maxW l m≤M:=by
 induction l with
 | nil=>intro m hm; exact ⟨zng _,hm⟩
 | cons g r ih =>
   intro m hm; have hw:=h g (by simp); have ih':=ih (fun g hg=>h g (by simp [hg])); simp only [maxW,zlL]; split
   · have:=ih' (worth g) hw; unfold maxW at this; omega
   · exact ih' m hm
theorem c_Decide (r:za8) (l:List zbb) (hl:l.length≤1000000) (hv:∀ g∈l,g.Value≤1099511627776):cw zjJ [.agg (zbA r),.sl 8 (List.map za7 l)] []=some (zjm (zlU r l)):=by
 have hw:∀ g∈l,worth g≤1099511627776:=fun g hg=>by have:=hv g hg; unfold worth; split <;> omega
 refine zuu r l ?_; rw [c_decisive l hl,zpI,zqG _,za3]; unfold zlU
 cases hb:(zoM l).2 with
 | true=>rw [if_pos rfl]; rfl
 | false =>
   rw [iNs,zaq,zaB]
   match l,hl,hv,hw with
   | [],_,_,_=>rfl
   | [g],_,_,_=>rw [show (((([g]:List zbb).length:Nat):Int) == 0)=false from rfl,zaB,show (((([g]:List zbb).length:Nat):Int) == 1)=true from rfl,zaZ,zam (zng 0)]; rw [zgI,show ([g]:List zbb)[Int.toNat 0]?=some g from rfl,zaS,zqG _,za3]; cases r.Double <;> rfl
   | g :: g' :: t,hl,hv,hw =>
     have h1:((((g :: g' :: t:List zbb).length:Nat):Int) == 0)=false:=by simp; omega
     have h2:((((g :: g' :: t:List zbb).length:Nat):Int) == 1)=false:=by simp; omega
     rw [h1,zaB,h2,zaB,zam (zng 0),zgI,show (g :: g' :: t:List zbb)[Int.toNat 0]?=some g from rfl,zaS,zqG _,za3,zam (zng 0),zgI,show (g :: g' :: t:List zbb)[Int.toNat 0]?=some g from rfl,zaS,zqG _,za3]; show ze5 r (g :: g' :: t) (worth g) (worth g) 0=some (zjm (if r.Tolerance < maxW (g :: g' :: t) (worth g) - minW (g :: g' :: t) (worth g) then ⟨2,0⟩ else ⟨3,mean (g :: g' :: t)⟩)); generalize hL:g :: g' :: t=L at *; have hne:L≠[]:=by rw [← hL]; simp
     have hg:=hw g (by rw [← hL]; simp); have hg0:=zjr g; refine zsc L (fun i s=>∀ (a b:Int),minW s a=minW L (worth g)→maxW s b=maxW L (worth g)→ze5 r L a b (i:Nat)=some (zjm (if r.Tolerance < maxW L (worth g) - minW L (worth g) then ⟨2,0⟩ else ⟨3,mean L⟩))) ?_ ?_ (worth g) (worth g) rfl rfl
     · intro a b ha hb; have ha':a=minW L (worth g):=ha; have hb':b=maxW L (worth g):=hb; have q1:=minW_bd L (worth g) hg0; have q2:=maxW_bd L _ hw (worth g) hg; refine zmJ r L a b _ ?_; rw [zaq,zdR,iNQ,zdR,w6Q,c_mean L hl hne hv,za3,ha',hb']; split <;> rfl
     · intro i x s hi hx hr ih a b ha hb; refine zmJ r L a b _ ?_; rw [zaq,zdR,iPQ,cPQ,zbf,zgI,zau hi,zaS,hx,zqG x,za3,za3,w6Q]; have e1:((i:Int)+1)=((i+1:Nat):Int):=by omega
       rw [e1]; exact ih _ _ ha hb
theorem zom (r:za8):cw zhI [.agg (zbA r)] []=some (zbw (chkR r)):=by
 refine zvu r ?_; unfold chkR; simp only [zfi,decide_eq_true_eq]; split
 · rfl
 · split <;> rfl
theorem c_right (r:za8) (s:zak) (hs:zbP s):cw zkE [.agg (zbA r),.agg (zaj s)] []=some (zas (chkR r == 0)):=by refine zvv r s ?_; simp only [znF hs,za3,beq_self_eq_true,zaZ,zom,za3]; rfl
theorem zDC (s:zak) (n:Int) (hl:s.Seeds.length≤1000000):cw zhw [.agg (zaj s),I n] []=some (ziu (seedR (seedOf s.Seeds n))):=by
 refine zrg s n ?_; refine ziM s.Seeds (fun y=>y.Script == n) (fun i=>ze9 s n i) (fun o=>ziu (seedR o)) ?_ ?_ ?_
 · refine zg3 _ _ _ ?_; simp (disch:=omega) only [zaq,zaW]; rfl
 · intro i hi h; refine zg3 _ _ _ ?_; simp (disch:=omega) only [zaq,zaC,zam,zbf,zmA,zau hi,zaS,h,zaZ]; rfl
 · intro i hi y h hk; refine zg3 _ _ _ ?_; simp (disch:=omega) only [zaq,zaC,zam,zbf,zmA,zau hi,zaS,h,zaB,w64_id,hk]
def SmallM (m:zaG):Prop:=m.Given.length≤1000000∧∀ g∈m.Given,g.Value≤1099511627776
theorem SmallM.count {m:zaG} (h:SmallM m) (n p:Int):(countG m n p).length≤1000000∧∀ g∈countG m n p,g.Value≤1099511627776:=
 ⟨zeI (zoB _ _) h.1,fun g hg=>h.2 g (zgO.1 hg).1⟩
theorem c_verdicts (r:za8) (s:zak) (hs:zbP s) (m:zaG) (hm:SmallM m) (x:zaE) (hx:x∈s.Scripts):cw ziJ [.agg (zbA r),.agg (zaj s),.agg (zaK m),.agg (za0 x)] []=some (ze7 (verdS r s m x)):=by
 have hx60:=hs.scripts.1; have hp32:=hs.papers; have hsd:=hs.seeds; obtain ⟨k,p,c,hk,hc,ha⟩:=hs.script x hx; have hpk:=(zeG hk).1; have hok:=hs.schemes k p c hpk hc; have hparts:=hok.1.2.2.1; have hwl:=hok.2.2.1; have hpo:zgX s x.Number=some (k,p):=by unfold zgX; rw [zlA hs.scripts.2.2 hx]; exact hk
 obtain ⟨rc,erc,hrc,hrc2⟩:=zr1 p c x.Answers (hs.short c (zb1 hc)); have hz:=hrc.2 ⟨hok,ha⟩; have hcl:=hrc2 hz; obtain ⟨rc1,rc2⟩:=rc; simp only at hz hcl; subst hz; subst hcl; unfold verdS; rw [hk]; dsimp only; rw [hc]; refine zsz r s m x ?_; simp (disch:=omega) only [zv9 s x.Number (show s.Scripts.length≤1000000 by omega) (show s.Papers.length≤1000000 by omega),hpo,ixR,zgR,zam,zbf,ze4,hpk,zaS,zpM,hc,erc,znH,zDC s x.Number (show s.Seeds.length≤1000000 by omega),zoI,zaq,zbz,eq_self,map_rep zb4,zeV]; rw [← mkN_zero p.Parts.length (verdAt r m x p c (seedOf s.Seeds x.Number)) ⟨0,0⟩]; refine zcn p.Parts (fun i _=>zdV r m x p c (zjc p c x.Answers,0) (seedR (seedOf s.Seeds x.Number)) (List.map zb4 (mkN p.Parts.length (verdAt r m x p c (seedOf s.Seeds x.Number)) ⟨0,0⟩ i.toNat)) i=some (ze7 (verdL r m x p c (seedOf s.Seeds x.Number)))) ?_ ?_
 · refine zlD _ _ _ _ _ _ _ _ _ ?_; simp (disch:=omega) only [zaq,zi8,zbf,zaW,zqi,mkN_all,zwR,eq_self,zbz]; rfl
 · intro i hi _ _ ih; have hiw:i < c.Withdrawn.length:=by omega
   have hix:((i:Int)+1).toNat=i+1:=by omega
   rw [hix] at ih; have hcl:i < (zjc p c x.Answers).length:=by simp [zjc]; omega
   have hcv:(zjc p c x.Answers)[i]=zdu p c x.Answers i:=by simp [zjc]
   have hset:∀ v,v=verdAt r m x p c (seedOf s.Seeds x.Number) i→List.map zb4 ((mkN p.Parts.length (verdAt r m x p c (seedOf s.Seeds x.Number)) ⟨0,0⟩ i).set i v)=List.map zb4 (mkN p.Parts.length (verdAt r m x p c (seedOf s.Seeds x.Number)) ⟨0,0⟩ (i+1)):=fun v hv=>by rw [ztz hv]
   have m1011:(p.Parts[i].Kind=2∨c.Withdrawn[i]≠0)→zeR r m x p c (zjc p c x.Answers,0) (seedR (seedOf s.Seeds x.Number)) (List.map zb4 (mkN p.Parts.length (verdAt r m x p c (seedOf s.Seeds x.Number)) ⟨0,0⟩ i)) i=some (ze7 (verdL r m x p c (seedOf s.Seeds x.Number))):=by intro hor; refine zpx _ _ _ _ _ _ _ _ _ ?_; simp (disch:=omega) only [zaq,zi8,zbf,zb9,zam,zbX,zau hcl,zaS,hcv,zlV,zxb hi,zgk zb4,w64_id]; rw [hset _ (by unfold verdAt; rw [zau hi,zau hiw]; dsimp only; rw [if_pos hor])]; exact ih
   refine zlD _ _ _ _ _ _ _ _ _ ?_; simp (disch:=omega) only [zaq,zi8,zbf,zb9,zaC,zam,zdF,zau hi,zaS,zbX,zau hiw]; by_cases h1:p.Parts[i].Kind=2
   · simp only [show (p.Parts[i].Kind == 2)=true by simpa using h1,zaZ]; exact m1011 (Or.inl h1)
   · simp only [show (p.Parts[i].Kind == 2)=false by simpa using h1,zaB]; by_cases h2:c.Withdrawn[i]=0
     · simp only [show (c.Withdrawn[i] != 0)=false by simpa using h2,zaB]
       have hva:verdAt r m x p c (seedOf s.Seeds x.Number) i=match seedOf s.Seeds x.Number with
         | some (_,sd)=>⟨3,sd.Marks.getD i 0⟩
         | none=>zlU r (countG m x.Number i):=by
        unfold verdAt; rw [zau hi,zau hiw]; dsimp only; rw [if_neg (by rintro (h | h) <;> contradiction)]; rfl
       cases ho:seedOf s.Seeds x.Number with
       | some q =>
         obtain ⟨q,sd⟩:=q; obtain ⟨k',p',hpo',hmk⟩:=zAW hs ho; rw [hpo] at hpo'; cases hpo'; have him:i < sd.Marks.length:=by have:=hmk.1; omega
         rw [ho] at hset hva ih; simp (disch:=omega) only [seedR,zaZ,zbX,zau him,zaS,zlV,zxb hi,zam,zgk zb4,w64_id]; rw [hset _ (by rw [hva]; simp [him])]; simp only [seedR] at ih; exact ih
       | none=>rw [ho] at hset hva ih; have hct:=hm.count x.Number i; simp (disch:=omega) only [seedR,zaB,c_CountG m x.Number i hm.1,zst,zaq,zcb,zbz]; rw [zcG (by simp)]; simp (disch:=omega) only [c_Decide r _ hct.1 hct.2,zrb,zlV,zxb hi,zaS,zam,zgk zb4,w64_id]; rw [hset _ hva.symm]; simp only [seedR] at ih; exact ih
     · simp only [show (c.Withdrawn[i] != 0)=true by simpa using h2,zaZ]; exact m1011 (Or.inr h2)
theorem verdS_len {r:za8} {s:zak} (hs:zbP s) {m:zaG} {x:zaE}:(verdS r s m x).length≤24:=by
 unfold verdS
 cases hk:zd3 s.Papers x with
 | none=>simp
 | some q=>obtain ⟨k,p⟩:=q; have:=(hs.okPaper (zeG hk).1).2.2.1.2; simp [verdL]; omega
theorem zuk (r:za8) (s:zak) (hs:zbP s) (m:zaG) (hm:SmallM m) (n:Int):cw ziH [.agg (zbA r),.agg (zaj s),.agg (zaK m),I n] []=some (zj1 (if chkR r=0 then match zeP s.Scripts n with | some x=>(verdS r s m x,0) | none=>([],4) else ([],1))):=by
 have hx60:=hs.scripts.1; refine zsx r s m n ?_; simp only [c_right r s hs,zaw]; by_cases hr:chkR r=0
 · rw [if_pos hr]; simp only [show (chkR r == 0)=true by simpa using hr,zb6,zaB]; have key:=ziM s.Scripts (fun x=>x.Number == n) (fun i=>zfF r s m n i) (fun o=>zj1 (match o.map (·.2) with | some x=>(verdS r s m x,0) | none=>([],4))) ?_ ?_ ?_
   · exact key
   · refine zhD _ _ _ _ _ ?_; simp (disch:=omega) only [zaq,zaW]; rfl
   · intro i hi h; refine zhD _ _ _ _ _ ?_; simp (disch:=omega) only [zaq,zaC,zam,zbf,zeC,zau hi,zaS,h,zaZ,c_verdicts r s hs m hm _ (zbt hi),zpJ,zb9,zcb,zbz]; rw [zcG (by simp)]; rfl
   · intro i hi y h hk; refine zhD _ _ _ _ _ ?_; simp (disch:=omega) only [zaq,zaC,zam,zbf,zeC,zau hi,zaS,h,zaB,w64_id,hk]
 · rw [if_neg hr]; simp only [show (chkR r == 0)=false by simpa using hr,zdE,zaZ]; rfl
theorem zCc {x:GPart} (hx:OkPart x) (v:Int):permB x v=dec (PermP x v):=by
 have:=hx.1; unfold permB PermP; by_cases h:x.Kind=2
 · simp only [h,if_true]; exact zlg (by split <;> simp <;> omega)
 · simp only [h,if_false]; exact zlg (by split <;> simp <;> omega)
def znd (p:zaJ) (c:zbp) (l:List Int):Prop:=
 ∀ (j:Nat) (x:GPart) (w v:Int),p.Parts[j]?=some x→c.Withdrawn[j]?=some w→l[j]?=some v→w=0→PermP x v
theorem c_Marked (p:zaJ) (c:zbp) (l:List Int) (hs:Short c) (hok:zfc p c) (hl:l.length=p.Parts.length):cw znV [.agg (zaT p),.agg (zbJ c),.sl 1 (List.map zaf l)] []=some (zas (dec (znd p c l))):=by
 have hpl:=hok.1.2.2.1; have hwl:=hok.2.2.1; refine zAt p c l ?_; simp only [zgd p c hs,zaw,zbN hok,zb6,zaB,zaq,hl,bne_self_eq_false]; have H:=zlc p.Parts.length (fun j hj=>c.Withdrawn[j]'(by omega)=0→PermP p.Parts[j] (l[j]'(by omega))) (fun i=>zha p c l i) zas ?_ ?_ ?_
 · rw [H,zje]; constructor
   · intro h j x w v hx hw hv hz; obtain ⟨hj,rfl⟩:=zbH.1 hx; obtain ⟨_,rfl⟩:=zbH.1 hw; obtain ⟨_,rfl⟩:=zbH.1 hv; exact h j hj hz
   · intro h j hj hz; exact h j _ _ _ (zau hj) (zau (by omega)) (zau (by omega)) hz
 · exact zmp _ _ _ _ (by simp (disch:=omega) only [zaq,zaW]; rfl)
 · intro i hi hn; have hiw:i < c.Withdrawn.length:=by omega
   have hil:i < l.length:=by omega
   refine zmp _ _ _ _ ?_; have hw:c.Withdrawn[i]=0:=zq1 fun h=>hn (fun h'=>absurd h' h)
   have hp:¬ PermP p.Parts[i] l[i]:=fun h=>hn (fun _=>h)
   simp (disch:=omega) only [zaq,zaC,zam,zbf,zdF,zau hi,zaS,zbX,zau hiw,zau hil,show (c.Withdrawn[i] == 0)=true by simpa using hw,zaZ,zsp,zCc (hok.1.2.2.2.1 _ (zbt hi)),zaw,zbY hp,zdE]; rfl
 · intro i hi y hg hk; have hiw:i < c.Withdrawn.length:=by omega
   have hil:i < l.length:=by omega
   refine zmp _ _ _ _ ?_; simp (disch:=omega) only [zaq,zaC,zam,zbf,zdF,zau hi,zaS,zbX,zau hiw,zau hil,zsp,zCc (hok.1.2.2.2.1 _ (zbt hi)),zaw,w64_id,hk]; by_cases hw:c.Withdrawn[i]=0
   · simp only [show (c.Withdrawn[i] == 0)=true by simpa using hw,zaZ,zbN (hg hw),zb6,zaB]
   · simp only [show (c.Withdrawn[i] == 0)=false by simpa using hw,zaB]
theorem c_Total_1 (i:Nat) (x:GPart) (c:zbp) (l:List Int) (h1:i < c.Withdrawn.length) (h2:i < l.length):cw zff [I i,.agg (zaQ x),.fp [.sl 1 (List.map zcH c.Keys),.sl 1 (List.map zaf c.Withdrawn)],.fp [.sl 1 (List.map zaf l)]] []=some (zbw (termT x c.Withdrawn[i] l[i])):=by
 refine zza i x c l ?_; simp (disch:=omega) only [zam,zbf,zbX,zau h1,zau h2,zaS]; unfold termT; simp only [zfi,beq_iff_eq]; split
 · rfl
 · split <;> rfl
theorem c_sum (p:zaJ) (c:zbp) (l:List Int) (hok:zfc p c) (hl:l.length=p.Parts.length) (hm:znd p c l):cw zrm [.agg (zaT p),.fn zff [.fp [.sl 1 (List.map zcH c.Keys),.sl 1 (List.map zaf c.Withdrawn)],.fp [.sl 1 (List.map zaf l)]]] []=some (zbw (sumT p.Parts c.Withdrawn l)):=by
 have hpl:=hok.1.2.2.1; have hwl:=hok.2.2.1; refine zDQ p c l ?_; have loop:=zcn p.Parts (fun i r=>∀ a:Int,0≤a→a≤40*i→zl2 p c l a i=some (zbw (a+sumT r (c.Withdrawn.drop i.toNat) (l.drop i.toNat)))) ?_ ?_ 0 (by omega) (by omega)
 · rw [loop]; simp
 · intro a _ _; refine ztO _ _ _ _ _ ?_; simp (disch:=omega) only [zaq,zaW,sumT,Int.add_zero]; rfl
 · intro i hi r _ ih a h0 h1; have hiw:i < c.Withdrawn.length:=by omega
   have hil:i < l.length:=by omega
   have hix:((i:Int)+1).toNat=i+1:=by omega
   rw [hix] at ih; have hxo:=hok.1.2.2.2.1 _ (zbt hi); have hmx:=hxo.1; have hw:=(hok.2.2.2 i _ (c.Keys[i]'(by have:=hok.2.1; omega)) _ (zau hi) (zau _) (zau hiw)).2
   have hterm:0≤termT p.Parts[i] c.Withdrawn[i] l[i]∧termT p.Parts[i] c.Withdrawn[i] l[i]≤40:=by
    unfold termT; split
    · omega
    · split
      · omega
      · have:=hm i _ _ _ (zau hi) (zau hiw) (zau hil) (by omega); unfold PermP at this; split <;> split at this <;> omega
   refine ztO _ _ _ _ _ ?_; simp (disch:=omega) only [zaq,zaC,zam,zbf,zdF,zau hi,zaS,c_Total_1 i p.Parts[i] c l hiw hil,za3,w64_id]; rw [ih _ (by omega) (by omega),zhX hiw,zhX hil,sumT,Int.add_assoc]
theorem zBp (p:zaJ) (c:zbp) (l:List Int) (hs:Short c) (hok:zfc p c) (hl:l.length=p.Parts.length):cw zoU [.agg (zaT p),.agg (zbJ c),.sl 1 (List.map zaf l)] []=some (zjY (bif dec (znd p c l) then (sumT p.Parts c.Withdrawn l,0) else (0,8))):=by
 refine zBC p c l ?_; simp only [zgd p c hs,zaw,zbN hok,zb6,zaB,zaq,hl,bne_self_eq_false,c_Marked p c l hs hok hl,zaw]; by_cases hm:znd p c l
 · simp only [zbN hm,zb6,zaB,c_sum p c l hok hl hm,za3,cond_true]; rfl
 · simp only [zbY hm,zdE,zaZ,cond_false]; rfl
theorem zE3 {r:za8} {s:zak} {m:zaG} {x:zaE} {k:Nat} {p:zaJ} (hk:zd3 s.Papers x=some (k,p)):(verdS r s m x).length=p.Parts.length:=by unfold verdS; rw [hk]; simp [verdL]
theorem c_Total (r:za8) (s:zak) (hs:zbP s) (m:zaG) (hm:SmallM m) (hr:chkR r=0) (x:zaE) (hx:x∈s.Scripts) (k:Nat) (p:zaJ) (c:zbp) (hk:zd3 s.Papers x=some (k,p)) (hc:s.Schemes[k]?=some c)
  (hmk:stateL (verdS r s m x)=3→znd p c ((verdS r s m x).map (·.Value))):cw zf0 [.agg (zbA r),.agg (zaj s),.agg (zaK m),I x.Number] []=some (zkk (if stateL (verdS r s m x)=3 then (3,sumT p.Parts c.Withdrawn ((verdS r s m x).map (·.Value)),0) else (stateL (verdS r s m x),0,0))):=by
 have hx60:=hs.scripts.1; have hp32:=hs.papers; have hpk:=(zeG hk).1; have hok:=hs.schemes k p c hpk hc; have hso:=zlA hs.scripts.2.2 hx; have hpo:zgX s x.Number=some (k,p):=by unfold zgX; rw [hso]; exact hk
 have hvp:=zE3 (r:=r) (m:=m) hk; have hvl:=verdS_len (r:=r) hs (m:=m) (x:=x); refine zkD r s m x.Number ?_; simp only [zuk r s hs m hm x.Number,zg0,if_pos hr,hso,bne_self_eq_false,zaB]; generalize hV:verdS r s m x=V at *
 have loop:=zcn V (fun i rest=>∀ (out:List Int) (a:Int),(out.length:Int)=i→zgU s x.Number (V,0) (List.map zaf out) a i=some (zkk (if rest.foldl (fun s v=>if v.State < s then v.State else s) a=3 then
    (bif dec (znd p c (out++rest.map (·.Value))) then (3,sumT p.Parts c.Withdrawn (out++rest.map (·.Value)),0) else (0,0,8))
   else (rest.foldl (fun s v=>if v.State < s then v.State else s) a,0,0)))) ?_ ?_ [] 3 (by simp)
 · refine Eq.trans loop ?_; by_cases h3:stateL V=3
   · have h3':=h3; unfold stateL at h3'; rw [if_pos h3',if_pos h3]; simp only [zoy,zbN (hmk h3),cond_true]
   · have h3':=h3; unfold stateL at h3'; rw [if_neg h3',if_neg h3]; rfl
 · intro out a ho; refine zns _ _ _ _ _ _ ?_; simp (disch:=omega) only [zaq,zaW,List.foldl_nil,zoF,zmY]; by_cases h3:a=3
   · subst h3; simp (disch:=omega) only [bne_self_eq_false,zaB,zv9 s x.Number (show s.Scripts.length≤1000000 by omega) (show s.Papers.length≤1000000 by omega),hpo,ixR,zgR,zam,zbf,ze4,hpk,zaS,zpM,hc,zb9,zcb,zbz,if_true]; rw [zcG (by simp)]; simp only [zBp p c out (hs.short c (zb1 hc)) hok (by omega),zjF]; by_cases hmm:znd p c out
     · simp only [zbN hmm,cond_true,bne_self_eq_false,zaB]; rfl
     · simp only [zbY hmm,cond_false,show ((8:Int) != 0)=true from rfl,zaZ]; rfl
   · simp only [show (a != 3)=true by simpa using h3,zaZ,if_neg h3]; rfl
 · intro i hi rest _ ih out a ho; refine zns _ _ _ _ _ _ ?_; simp (disch:=omega) only [zaq,zaC,zam,zbf,zlV,zau hi,zaS,zbz,zcS zaf,w64_id]; have:=ih (out++[V[i].Value]) (if V[i].State < a then V[i].State else a) (by simp; omega); rw [zi9,zt4] at this; exact this
theorem zDI (l:List zbb) (h:(zoM l).2=true):(zoM l).1∈l:=by
 have key:∀ (r:List zbb) (b:zbb×Bool),(∀ g∈r,g∈l)→(b.2=true→b.1∈l)→(r.foldl stepD b).2=true→(r.foldl stepD b).1∈l:=by
  intro r
  induction r with
  | nil=>intro b _ hb h; exact hb h
  | cons g r ih =>
    intro b hr hb h; refine ih (stepD b g) (fun x hx=>hr x (by simp [hx])) ?_ h; unfold stepD; split
    · exact hb
    · split
      · intro _; exact hr g (by simp)
      · exact hb
 exact key l _ (fun _ h=>h) (by simp) h
theorem mean_bd (l:List zbb) (h0:l≠[]) (M:Int) (hw:∀ g∈l,worth g≤M):0≤mean l∧mean l≤M:=by
 have hpos:0 < l.length:=zyx.2 h0; have h1:=sumW_le l M hw; have h2:=zsU l; have h3:0≤(sumW l).tmod l.length:=Int.tmod_nonneg _ h2; have h4:(sumW l).tmod l.length < l.length:=ztW _ (by omega); have h5:0≤(sumW l).tdiv l.length:=Int.tdiv_nonneg h2 (by omega); have h6:=Int.mul_tdiv_add_tmod (sumW l) l.length; unfold mean; split
 · refine ⟨by omega,?_⟩; by_cases hq:M≤(sumW l).tdiv l.length
   · have:=aLiAs156 hq (show (0:Int)≤(l.length:Int) by omega); omega
   · omega
 · refine ⟨h5,?_⟩; by_cases hq:M+1≤(sumW l).tdiv l.length
   · have:=aLiAs156 hq (show (0:Int)≤(l.length:Int) by omega); rw [Int.mul_add] at this; omega
   · omega
theorem decideV_bd (r:za8) (l:List zbb) (M:Int) (hM:0≤M) (hw:∀ g∈l,worth g≤M):(0≤(zlU r l).State∧(zlU r l).State≤3)∧0≤(zlU r l).Value∧(zlU r l).Value≤M:=by
 unfold zlU; split
 · rename_i h; exact ⟨by simp,zjr _,hw _ (zDI l h)⟩
 · split
   · exact ⟨by simp,by simp,by simpa using hM⟩
   · rename_i g _ ; split
     · exact ⟨by simp,by simp,by simpa using hM⟩
     · exact ⟨by simp,zjr _,hw g (by simp)⟩
   · split
     · exact ⟨by simp,by simp,by simpa using hM⟩
     · exact ⟨by simp,mean_bd _ (by simp) M hw⟩
theorem zCM {p:zaJ} {c:zbp} {a:List Int} {i:Nat} {y:GPart} (hy:p.Parts[i]?=some y) (ho:OkPart y):0≤(if 0 > zdu p c a i then 0 else zdu p c a i)∧(if 0 > zdu p c a i then 0 else zdu p c a i)≤y.Max∧PermP y (if 0 > zdu p c a i then 0 else zdu p c a i):=by
 have hm:=ho.1; have hk:=kind2 ho
 have key:zdu p c a i=y.Max∧y.Kind=2∨zdu p c a i≤0:=by
  unfold zdu; rw [hy]; split
  · rename_i x ks v h1 h2 h3; injection h1 with h1; subst h1; split
    · right; omega
    · split
      · left; exact ⟨rfl,by omega⟩
      · right; split <;> omega
  · right; omega
 unfold PermP; rcases key with ⟨h1,h2⟩ | h1
 · rw [iNQ,if_pos h2,h1]; exact ⟨by omega,by omega,by omega⟩
 · have:(if 0 > zdu p c a i then 0 else zdu p c a i)=0:=by split <;> omega
   rw [this]; refine ⟨by omega,by omega,?_⟩; split <;> omega
def zkl (s:zak) (g:zbb):Prop:=∃ e,FitsE s e∧g.Script=e.Script∧g.Part=e.Part∧g.Value=e.Value
theorem verd_ok (r:za8) (s:zak) (hs:zbP s) (m:zaG) (hg:∀ g∈m.Given,zkl s g) (x:zaE) (hx:x∈s.Scripts) (k:Nat) (p:zaJ) (c:zbp) (hk:zd3 s.Papers x=some (k,p)) (hc:s.Schemes[k]?=some c)
  (i:Nat) (y:GPart) (hy:p.Parts[i]?=some y):(0≤(verdAt r m x p c (seedOf s.Seeds x.Number) i).State∧(verdAt r m x p c (seedOf s.Seeds x.Number) i).State≤3)∧0≤(verdAt r m x p c (seedOf s.Seeds x.Number) i).Value∧(verdAt r m x p c (seedOf s.Seeds x.Number) i).Value≤y.Max∧PermP y (verdAt r m x p c (seedOf s.Seeds x.Number) i).Value:=by
 have hpk:=(zeG hk).1; have hok:=hs.schemes k p c hpk hc; have hyo:OkPart y:=hok.1.2.2.2.1 y (zb1 hy); have hy1:=hyo.1; have hlt:=(zbH.1 hy).1; have hiw:i < c.Withdrawn.length:=by have:=hok.2.2.1; omega
 have hso:=zlA hs.scripts.2.2 hx; have hpo:zgX s x.Number=some (k,p):=by unfold zgX; rw [hso]; exact hk
 unfold verdAt; rw [hy,zau hiw]; dsimp only; split
 · exact ⟨by simp,zCM hy hyo⟩
 · rename_i hn; have hk1:y.Kind=1:=by have:=kind2 hyo; omega
   have perm:∀ v,0≤v→v≤y.Max→PermP y v:=by intro v h0 h1; unfold PermP; rw [iNQ]; omega
   cases ho:seedOf s.Seeds x.Number with
   | some q =>
     obtain ⟨q,sd⟩:=q; obtain ⟨k',p',hpo',hmk⟩:=zAW hs ho; rw [hpo] at hpo'; cases hpo'; have him:i < sd.Marks.length:=by have:=hmk.1; omega
     have hb:=hmk.2 i y _ hy (zau him); have hgd:sd.Marks.getD i 0=sd.Marks[i]:=by simp [him]
     dsimp only; rw [hgd]; exact ⟨by simp,hb.1,hb.2,perm _ hb.1 hb.2⟩
   | none =>
     dsimp only
     have hw:∀ g∈countG m x.Number i,worth g≤y.Max:=by intro g hgm; obtain ⟨hgm,hgp⟩:=zgO.1 hgm; simp only [zcw,beq_iff_eq] at hgp; obtain ⟨e,⟨x',a1,_,_,k',p',y',a2,a0,a3,_,a4,_⟩,b1,b2,b3⟩:=hg g hgm; rw [← b1,hgp.1,hso] at a1; cases a1; rw [hk] at a2; cases a2; rw [← b2,hgp.2,zbf,hy] at a3; cases a3; unfold worth; split <;> omega
     obtain ⟨h1,h2,h3⟩:=decideV_bd r _ y.Max (by omega) hw; exact ⟨h1,h2,h3,perm _ h2 h3⟩
theorem zAJ (r:za8) (s:zak) (hs:zbP s) (m:zaG) (hg:∀ g∈m.Given,zkl s g) (x:zaE) (hx:x∈s.Scripts) (k:Nat) (p:zaJ) (c:zbp) (hk:zd3 s.Papers x=some (k,p)) (hc:s.Schemes[k]?=some c):znd p c ((verdS r s m x).map (·.Value)):=by
 intro j y w v hy _ hv _
 have hVe:verdS r s m x=(List.range p.Parts.length).map (verdAt r m x p c (seedOf s.Seeds x.Number)):=by unfold verdS; rw [hk]; dsimp only; rw [hc]; rfl
 have:=verd_ok r s hs m hg x hx k p c hk hc j y hy; obtain ⟨hj2,rfl⟩:=zbH.1 hv; have e:(List.map (fun x=>x.Value) (verdS r s m x))[j]=(verdAt r m x p c (seedOf s.Seeds x.Number) j).Value:=by simp [hVe]
 rw [e]; exact this.2.2.2
theorem c_TotalG (r:za8) (s:zak) (hs:zbP s) (m:zaG) (hm:SmallM m) (hg:∀ g∈m.Given,zkl s g) (n:Int):cw zf0 [.agg (zbA r),.agg (zaj s),.agg (zaK m),I n] []=some (zkk (totR r s m n)):=by
 unfold totR; by_cases hr:chkR r=0
 · rw [if_pos hr]
   cases hso:zeP s.Scripts n with
   | none=>refine zkD r s m n ?_; simp only [zuk r s hs m hm n,if_pos hr,hso,zg0,show ((4:Int) != 0)=true from rfl,zaZ]; rfl
   | some x=>obtain ⟨hx,hxn⟩:=zyc hso; subst hxn; obtain ⟨k,p,c,hk,hc,_⟩:=hs.script x hx; have:=c_Total r s hs m hm hr x hx k p c hk hc (fun _=>zAJ r s hs m hg x hx k p c hk hc); rw [this]; dsimp only; rw [hk]; dsimp only; rw [hc]; rfl
 · rw [if_neg hr]; refine zkD r s m n ?_; simp only [zuk r s hs m hm n,if_neg hr,zg0,show ((1:Int) != 0)=true from rfl,zaZ]; rfl
set_option maxRecDepth 20000
theorem c_ACheck (r:zaM):cw zlW [.agg (zaP r)] []=some (zbw (chkA r)):=by
 refine zBu r ?_; unfold chkA; simp only [zfi,decide_eq_true_eq]
 repeat' split
 all_goals first | rfl | omega
theorem c_seeds (s:zak) (hl:s.Seeds.length≤1000000):cw zlX [.agg (zaj s)] []=some (zhs (setM (s.Seeds.map (·.Script)) [])):=by
 refine zBx s ?_; refine zcn s.Seeds (fun i r=>∀ m:List (Int×Bool),zjS s (List.map za4 m) i=some (zhs (setM (r.map (·.Script)) m))) ?_ ?_ []
 · intro m; refine zrD _ _ _ ?_; simp (disch:=omega) only [zaq,zaW]; rfl
 · intro i hi r _ ih m; refine zrD _ _ _ ?_; simp (disch:=omega) only [zaq,zaC,zam,zbf,zmA,zau hi,zaS,w64_id]; rw [zh5]; exact ih _
theorem zzu (s:zak) (n:Int):(mfind n (setM (s.Seeds.map (·.Script)) [])).getD false=(seedOf s.Seeds n).isSome:=by
 unfold seedOf; rw [zse,fnd_any]; simp only [mfind]; by_cases h:n∈s.Seeds.map (·.Script)
 · rw [if_pos h]; symm; obtain ⟨y,hy,e⟩:=zce.1 h; exact ztZ.2 ⟨y,hy,by simpa using e⟩
 · rw [if_neg h]; symm; simp only [zt3,ztY,beq_iff_eq]; exact fun y hy e=>h (zce.2 ⟨y,hy,e⟩)
def markL (m:zaG) (id:Int):List Int:=(m.Given.filter fun g=>g.Marker == id).map (·.Script)
theorem zul (m:zaG) (id:Int) (hl:m.Given.length≤1000000):cw zg5 [.agg (zaK m),I id] []=some (zhs (setM (markL m id) [])):=by
 refine zxB m id ?_; refine zcn m.Given (fun i r=>∀ f:List (Int×Bool),zf2 m id (List.map za4 f) i=some (zhs (setM ((r.filter fun g=>g.Marker == id).map (·.Script)) f))) ?_ ?_ []
 · intro f; refine zor _ _ _ _ ?_; simp (disch:=omega) only [zaq,zaW]; rfl
 · intro i hi r _ ih f; refine zor _ _ _ _ ?_; simp (disch:=omega) only [zaq,zaC,zam,zbf,zgI,zau hi,zaS,w64_id,zgb]
   cases m.Given[i].Marker == id with
   | true=>rw [zaZ,if_pos rfl,zh5]; exact ih _
   | false=>rw [zaB,iNs]; exact ih _
theorem zzn (m:zaG) (id n:Int):(mfind n (setM (markL m id) [])).getD false=marksB m id n:=by
 rw [zse]; simp only [mfind]; unfold markL marksB; by_cases h:n∈(m.Given.filter fun g=>g.Marker == id).map (·.Script)
 · rw [if_pos h]; symm; obtain ⟨y,hy,e⟩:=zce.1 h; obtain ⟨h1,h2⟩:=zgO.1 hy; exact ztZ.2 ⟨y,h1,by simp only [zcw,h2,true_and,beq_iff_eq,e]⟩
 · rw [if_neg h]; symm; simp only [zt3,ztY,zcw,beq_iff_eq,not_and]; exact fun y hy h1 e=>h (zce.2 ⟨y,zgO.2 ⟨hy,by simpa using h1⟩,e⟩)
structure SetOk (f:List (Int×Bool)) (n:Int):Prop where
 nd:(f.map (·.1)).Nodup
 w:∀ k∈f.map (·.1),W64 k
 len:(f.length:Int)≤n
theorem SetOk.put {f:List (Int×Bool)} {n:Int} (h:SetOk f n) {k:Int} (hk:W64 k):SetOk (mput k true f) (n+1) where
 nd:=(zjA h.nd).1
 w:=fun j hj=>by
   rcases (zjA h.nd).2 j hj with e | e
   · rw [e]; exact hk
   · exact h.w j e
 len:=by have h1:=h.len; have h2:(mput k true f).length≤f.length+1:=zoZ; omega
theorem SetOk.up {f:List (Int×Bool)} {n:Int} (h:SetOk f n):SetOk f (n+1):=⟨h.nd,h.w,by have:=h.len; omega⟩
theorem zCi {f:List (Int×Bool)} {n:Int} (h:SetOk f n) (hn:n≤1000000):(callD zcK (cw zcp [.mp (List.map za4 f)] []) fun r=>callD zdg (cw zca [.fn zbs [.fa 0 [[.mp (List.map za4 r)]]]] []) fun k=>some (AV.sl 1 (List.map zaf k),([]:Mem)))=some (zc0 ((f.map (·.1)).mergeSort leI)):=by rw [c_keysK,zk3,c_sortedK f (by have:=h.len; omega) h.w h.nd,zes]; rfl
theorem zzt {x:zaE} (h:zmS x):W64 x.Number:=by unfold zmS at h; unfold W64; omega
theorem zw7 {s:zak} (hs:zju s.Scripts) (h12:s.Seeds.length≤1000000) (m:zaG) (hm:m.Given.length≤1000000) (a:zai):cw zhq [.agg (zaj s),.agg (zaK m),.agg (zag a)] []=some (zc0 (scopeL s m a)):=by
 have h60:=hs.1; refine zBv s m a ?_; rw [zyS,zaw]
 cases hv:zeX a with
 | false =>
   have e:scopeL s m a=[]:=by unfold scopeL; rw [List.filter_eq_nil_iff.2 (fun x _=>by unfold scopeB; rw [hv]; simp)]; rfl
   rw [e]; rfl
 | true =>
 rw [zb6,zaB,c_seeds s (by omega),zgH]
 have fin:∀ (B:zaE→Bool),(∀ x,B x=scopeB s m a x)→((setM ((s.Scripts.filter B).map (·.Number)) []).map (·.1)).mergeSort leI=scopeL s m a:=by
  intro B hB; have hBs:B=scopeB s m a:=funext hB; have hn:(s.Scripts.filter B).map (·.Number)=scopeL s m a:=by rw [hBs]; rfl
  have hasc:((s.Scripts.filter B).map (·.Number)).Pairwise (· < ·):=by have h:=nums_asc hs; rw [zoG] at h ⊢; exact h.filter _
  rw [zuZ _ _ (hasc.imp fun h e=>by omega) (fun _ _=>rfl),zoy,List.map_map]; rw [show ((fun p:Int×Bool=>p.1) ∘ fun n:Int=>(n,true))=id from rfl,zqC,asc_sorted hasc,hn]
 cases hk:(a.Kind == 1) with
 | true =>
   rw [zaZ,zul m _ hm,zgH,← fin (fun x=>!(mfind x.Number (setM (s.Seeds.map (·.Script)) [])).getD false && ((a.Kind == 0 && x.Candidate == a.Candidate && x.Centre == a.Stamp.Source) || (mfind x.Number (setM (markL m a.Marker) [])).getD false)) (fun x=>by
    rw [zzu,zzn]; unfold scopeB
    rw [hv,hk,zhn,zhn])]
   refine zcn s.Scripts (fun i r=>∀ f:List (Int×Bool),SetOk f i→zfg s a (setM (s.Seeds.map (·.Script)) []) (setM (markL m a.Marker) []) (List.map za4 f) i=some (zc0 (((setM ((r.filter fun x=>!(mfind x.Number (setM (s.Seeds.map (·.Script)) [])).getD false && ((a.Kind == 0 && x.Candidate == a.Candidate && x.Centre == a.Stamp.Source) || (mfind x.Number (setM (markL m a.Marker) [])).getD false)).map (·.Number)) f).map (·.1)).mergeSort leI))) ?_ ?_ [] ⟨List.nodup_nil,by simp,by simp⟩
   · intro f hf; refine zrC _ _ _ _ _ _ ?_; simp (disch:=omega) only [zaq,zaW]; exact zCi hf (by omega)
   · intro i hi r _ ih f hf; have hw:=zzt (hs.2.1 _ (zbt hi))
     have m12:zf1 s a (setM (s.Seeds.map (·.Script)) []) (setM (markL m a.Marker) []) (List.map za4 f) i s.Scripts[i] (a.Kind == 0 && s.Scripts[i].Candidate == a.Candidate && s.Scripts[i].Centre == a.Stamp.Source)=some (zc0 (((setM (((s.Scripts[i] :: r).filter fun x=>!(mfind x.Number (setM (s.Seeds.map (·.Script)) [])).getD false && ((a.Kind == 0 && x.Candidate == a.Candidate && x.Centre == a.Stamp.Source) || (mfind x.Number (setM (markL m a.Marker) [])).getD false)).map (·.Number)) f).map (·.1)).mergeSort leI)):=by
      refine zvE _ _ _ _ _ _ _ _ ?_; rw [zh1,zh1,zgb,w6Q]; have put:=ih _ (hf.put hw); have skip:=ih _ hf.up
      cases (mfind s.Scripts[i].Number (setM (s.Seeds.map (·.Script)) [])).getD false with
      | true=>exact skip
      | false =>
        cases (a.Kind == 0 && s.Scripts[i].Candidate == a.Candidate && s.Scripts[i].Centre == a.Stamp.Source) with
        | true=>rw [zdE,zaZ,zaZ,zh5]; exact put
        | false =>
          cases (mfind s.Scripts[i].Number (setM (markL m a.Marker) [])).getD false with
          | true=>rw [zdE,zaZ,zaB,zaZ,zh5]; exact put
          | false=>exact skip
     refine zrC _ _ _ _ _ _ ?_; simp (disch:=omega) only [zaq,zaC,zam,zbf,zeC,zau hi,zaS]; revert m12
     cases a.Kind == 0 with
     | false=>exact fun h=>h
     | true =>
       cases s.Scripts[i].Candidate == a.Candidate with
       | false=>exact fun h=>h
       | true=>exact fun h=>h
 | false =>
   rw [zaB,← fin (fun x=>!(mfind x.Number (setM (s.Seeds.map (·.Script)) [])).getD false && (a.Kind == 0 && x.Candidate == a.Candidate && x.Centre == a.Stamp.Source)) (fun x=>by
    rw [zzu]; unfold scopeB
    rw [hv,hk,zhn,zjb,Bool.or_false])]
   refine zcn s.Scripts (fun i r=>∀ f:List (Int×Bool),SetOk f i→zeu s a (setM (s.Seeds.map (·.Script)) []) (List.map za4 f) i=some (zc0 (((setM ((r.filter fun x=>!(mfind x.Number (setM (s.Seeds.map (·.Script)) [])).getD false && (a.Kind == 0 && x.Candidate == a.Candidate && x.Centre == a.Stamp.Source)).map (·.Number)) f).map (·.1)).mergeSort leI))) ?_ ?_ [] ⟨List.nodup_nil,by simp,by simp⟩
   · intro f hf; refine zpw _ _ _ _ _ ?_; simp (disch:=omega) only [zaq,zaW]; exact zCi hf (by omega)
   · intro i hi r _ ih f hf; have hw:=zzt (hs.2.1 _ (zbt hi))
     have m12:zfn s a (setM (s.Seeds.map (·.Script)) []) (List.map za4 f) i s.Scripts[i] (a.Kind == 0 && s.Scripts[i].Candidate == a.Candidate && s.Scripts[i].Centre == a.Stamp.Source)=some (zc0 (((setM (((s.Scripts[i] :: r).filter fun x=>!(mfind x.Number (setM (s.Seeds.map (·.Script)) [])).getD false && (a.Kind == 0 && x.Candidate == a.Candidate && x.Centre == a.Stamp.Source)).map (·.Number)) f).map (·.1)).mergeSort leI)):=by
      refine ztL _ _ _ _ _ _ _ ?_; rw [zh1,show ([]:List (List AV))=List.map za4 [] from rfl,zh1,zgb,w6Q]; have put:=ih _ (hf.put hw); have skip:=ih _ hf.up
      cases (mfind s.Scripts[i].Number (setM (s.Seeds.map (·.Script)) [])).getD false with
      | true=>exact skip
      | false =>
        cases (a.Kind == 0 && s.Scripts[i].Candidate == a.Candidate && s.Scripts[i].Centre == a.Stamp.Source) with
        | true=>rw [zdE,zaZ,zaZ,zh5]; exact put
        | false=>exact skip
     refine zpw _ _ _ _ _ ?_; simp (disch:=omega) only [zaq,zaC,zam,zbf,zeC,zau hi,zaS]; revert m12
     cases a.Kind == 0 with
     | false=>exact fun h=>h
     | true =>
       cases s.Scripts[i].Candidate == a.Candidate with
       | false=>exact fun h=>h
       | true=>exact fun h=>h
theorem c_add (M:List (Int×Int)) (n t:Int):cw zfl [.map 1000,I n,I t] [(1000,⟨0,zaH,List.map zaF M,false⟩)]=some (zjk (addT n t M)):=by
 refine ztp M n t ?_; rw [zrq,zD2]; unfold addT
 cases mfind n M with
 | none=>rfl
 | some a=>simp only [zk8,zb6,zaB,zeV,zdR]; split <;> rfl
def openM (M:List (Int×Int)):List zab:=((M.map (·.1)).mergeSort leI).mapIdx fun i n=>openE i (n,(mfind n M).getD 0)
theorem zDE {M:List (Int×Int)} (hn:(M.map (·.1)).Nodup) (hw:∀ k∈M.map (·.1),W64 k) (hl:M.length≤1000):cw zdU [.mp (List.map zaF M)] []=some (zh2 (openM M)):=by
 refine zoO M ?_; rw [c_keysL,zfU,zBP M (by omega) hw hn,zes]; unfold openM; have hkl:((M.map (·.1)).mergeSort leI).length≤1000:=by rw [List.length_mergeSort,zaq]; exact hl
 generalize (M.map (·.1)).mergeSort leI=ks at hkl; refine zcn ks (fun i _=>zem M ks (List.map zaa ((ks.take i.toNat).mapIdx fun i n=>openE i (n,(mfind n M).getD 0))) i=some (zh2 (ks.mapIdx fun i n=>openE i (n,(mfind n M).getD 0)))) ?_ ?_
 · refine ziC _ _ _ _ ?_; simp (disch:=omega) only [zaq,zaW,zbf,ziE,zb9,zcb,zbz]; rw [zcG (by simp)]; rfl
 · intro i hi r _ ih; refine ziC _ _ _ _ ?_; have hix:((i:Int)+1).toNat=i+1:=by omega
   rw [hix,zk9 hi,List.mapIdx_concat,zga] at ih; have hlen:(ks.take i).length=i:=by rw [zwZ]; omega
   rw [hlen] at ih; have hlm:(List.map zaa ((ks.take i).mapIdx fun i n=>openE i (n,(mfind n M).getD 0))).length=i:=by simp; omega
   rw [zbf]; generalize List.map zaa ((ks.take i).mapIdx fun i n=>openE i (n,(mfind n M).getD 0))=out at ih hlm; simp (disch:=omega) only [zaq,zaC,zam,zbf,zbX,zau hi,zaS,w64_id]; rw [zrq]; simp only [zbz]; exact ih
theorem zEK {s:zak} (hs:zbP s) {f:zaE→Option Int} {M:List (Int×Int)} (h:Times s f M):openM M=openS (schedL s f):=by
 unfold openM openS; rw [h.keys hs]; apply zlP
 · simp
 · intro i h1 h2; have hi:i < (schedL s f).length:=by simpa using h2
   simp only [List.getElem_mapIdx,zqD]; rw [h.find (zbt hi)]; rfl
theorem Times.w {s:zak} (hs:zbP s) {f:zaE→Option Int} {M:List (Int×Int)} (h:Times s f M):∀ k∈M.map (·.1),W64 k:=fun k hk=>by obtain ⟨x,hx,rfl⟩:=h.num k hk; exact zzt (hs.scripts.2.1 x hx)
theorem c_open {s:zak} (hs:zbP s) {f:zaE→Option Int} {M:List (Int×Int)} (h:Times s f M):cw zdU [.mp (List.map zaF M)] []=some (zh2 (openS (schedL s f))):=by rw [← zEK hs h]; exact zDE h.nd (h.w hs) (by have:=h.few hs; omega)
theorem c_Concat (a b:List zab) (ha:a.length≤100000) (hb:b.length≤100000):cw zdL [.sl 1 (List.map zc4 [a,b])] []=some (zdh (a++b)):=by
 refine ziX [a,b] ?_
 have h3:zb0 [a,b] (List.map zaa (a++b)) 2=some (zdh (a++b)):=by refine zdC _ _ _ ?_; rw [zaW (by simp),zam rfl]; rfl
 have h2:zb0 [a,b] (List.map zaa a) 1=some (zdh (a++b)):=by refine zdC _ _ _ ?_; rw [zaC (by simp),cPQ,zh9,show ([a,b]:List (List zab))[Int.toNat 1]?=some b from rfl,zaS,zam rfl,zam (by simp; omega),zam rfl,← zga]; exact h3
 have h1:zb0 [a,b] (List.map zaa []) 0=some (zdh (a++b)):=by refine zdC _ _ _ ?_; rw [zaC (by simp),cPQ,zh9,show ([a,b]:List (List zab))[Int.toNat 0]?=some a from rfl,zaS,zam rfl,zam (by simp; omega),zam rfl,← zga]; exact h2
 have g2:zcm [a,b] (a.length+b.length:Int) 2=some (zdh (a++b)):=by refine zdB _ _ _ ?_; rw [zaW (by simp),c_GrowE _ (by omega),zkC,zam rfl]; exact h1
 have g1:zcm [a,b] (a.length:Int) 1=some (zdh (a++b)):=by refine zdB _ _ _ ?_; rw [zaC (by simp),cPQ,zh9,show ([a,b]:List (List zab))[Int.toNat 1]?=some b from rfl,zaS,zaq,w6Q,zaW (by omega)]; exact g2
 refine zdB _ _ _ ?_; rw [zaC (by simp),cPQ,zh9,show ([a,b]:List (List zab))[Int.toNat 0]?=some a from rfl,zaS,zaq,w6Q,zaW (by omega),Int.zero_add]; exact g1
theorem c_with (a b:List zab) (ha:a.length≤100000) (hb:b.length≤100000):cw zmP [.sl 9 (List.map zaa a),.sl 9 (List.map zaa b)] []=some (zh2 (a++b)):=by refine zCP a b ?_; rw [c_Concat a b ha hb,zkC,cPQ,ziE]; rfl
theorem c_Until (l:List zab) (t:Int) (hl:l.length≤100000) (hp:∀ e∈l,e.Pages.length≤1000000):cw znT [.sl 9 (List.map zaa l),I t] []=some (zdh (untilS l t)):=by
 refine zAo l t ?_; refine zcn l (fun i r=>∀ out:List zab,(out.length:Int)≤i→zg9 l t (List.map zaa out) i=some (zdh (out++untilS r t))) ?_ ?_ [] (by simp)
 · intro out ho; refine zp7 _ _ _ _ ?_; rw [zaq,zaW (by omega),zam rfl]; unfold untilS; rw [zoA,zmY]; rfl
 · intro i hi r _ ih out ho; refine zp7 _ _ _ _ ?_; rw [zaq,zaC (by omega),cPQ,zbf,zbW,zau hi,zaS,c_clone _ (hp _ (zbt hi)),zon,w6Q,zdR]; unfold untilS at ih ⊢; rw [zgb]; by_cases h:l[i].Stamp.Time≤t
   · rw [if_pos h,if_pos (by simpa using h),zam rfl,zam (by rw [zaq]; omega),zam rfl]; have:=ih (out++[l[i]]) (by simp; omega); rw [zi9,zt4,zga] at this; exact this
   · rw [if_neg h,if_neg (by simpa using h)]; exact ih out (by omega)
theorem lessS_tr {a b c:zbe} (h1:lessS a b=true) (h2:lessS b c=true):lessS a c=true:=by
 unfold lessS at *
 grind
structure FairD (i:Nat) (pre:List zab) (d:zat):Prop where
 mrk:∀ x∈d.marks,x.event∈pre
 sAt:∀ y∈d.suspensions,(∃ e∈pre,y.At=e.Stamp)∧(y.Lifted=true→∃ e∈pre,y.Until=e.Stamp)∧y.Marker=(i:Int)
 lift:d.watch.Suspended=false→∀ y∈d.suspensions,y.Lifted=true
 lift2:d.watch.Suspended=true→∀ (k:Nat) (y:zbQ),d.suspensions[k]?=some y→(k+1≠d.suspensions.length→y.Lifted=true)∧(k+1=d.suspensions.length→y.Lifted=false)
 out:∀ x∈d.marks,x.void=false→∀ y∈d.suspensions,lessS x.event.Stamp y.At=true∨(y.Lifted=true∧lessS x.event.Stamp y.Until=false)
 bad:∀ x∈d.marks,x.void=false→∀ y∈d.suspensions,y.First=false→lessS y.Good x.event.Stamp=true→lessS y.At x.event.Stamp=true
 per:∀ (k:Nat) (x:zbC),d.marks[k]?=some x→(k:Int) < d.period→lessS d.started x.event.Stamp=false
 st:d.period≤0∨∃ e∈pre,d.started=e.Stamp
 good:d.some=true→d.period≤0∨lessS d.started d.good=true
 pos:d.period≤(d.marks.length:Int)
theorem FairD.mono {i pre d} (h:FairD i pre d) (e:zab):FairD i (pre++[e]) d:=by
 have up:∀ {f:zab},f∈pre→f∈pre++[e]:=fun h=>aLiAs61 _ h
 refine ⟨fun x hx=>up (h.mrk x hx),fun y hy=>?_,h.lift,h.lift2,h.out,h.bad,h.per,?_,h.good,h.pos⟩
 · obtain ⟨⟨f,f1,f2⟩,g,m⟩:=h.sAt y hy; exact ⟨⟨f,up f1,f2⟩,fun hl=>by obtain ⟨q,q1,q2⟩:=g hl; exact ⟨q,up q1,q2⟩,m⟩
 · rcases h.st with q | ⟨f,f1,f2⟩
   · exact .inl q
   · exact .inr ⟨f,up f1,f2⟩
theorem FairD.rein {i pre d} (h:FairD i pre d) {e:zab} (hlt:∀ f∈pre,lessS f.Stamp e.Stamp=true):FairD i (pre++[e]) (reinS e.Stamp d):=by
 unfold reinS; split
 case isFalse=>exact h.mono e
 rename_i hs; have h':=h.mono e
 have mem:∀ y'∈d.suspensions.modify (d.suspensions.length - 1) (fun x=>{ x with Lifted:=true,Until:=e.Stamp }),∃ y∈d.suspensions,(y'={ y with Lifted:=true,Until:=e.Stamp }∧y.Lifted=false)∨(y'=y∧y.Lifted=true):=by
  intro y' hy; obtain ⟨k,hk⟩:=aLiAs53 hy; rw [List.getElem?_modify] at hk
  cases hg:d.suspensions[k]? with
  | none=>rw [hg] at hk; simp at hk
  | some y =>
    rw [hg] at hk; have hlen:k < d.suspensions.length:=(zbH.1 hg).1; refine ⟨y,zb1 hg,?_⟩; obtain ⟨q1,q2⟩:=h.lift2 hs k y hg; by_cases hl:d.suspensions.length - 1=k
    · left; exact ⟨by simpa [hl,eq_comm] using hk,q2 (by omega)⟩
    · right; exact ⟨by simpa [hl,eq_comm] using hk,q1 (by omega)⟩
 refine ⟨h'.mrk,fun y' hy=>?_,fun _ y' hy=>?_,fun hh=>absurd hh (by simp),fun x hx hv y' hy=>?_,fun x hx hv y' hy hf hg=>?_,fun k x hk _=>?_,.inr ⟨e,by simp,rfl⟩,fun hh=>absurd hh (by simp),by simp⟩
 · obtain ⟨y,y1,y2⟩:=mem y' hy; obtain ⟨a1,a2,a3⟩:=h'.sAt y y1; rcases y2 with ⟨rfl,_⟩ | ⟨rfl,_⟩
   · exact ⟨a1,fun _=>⟨e,by simp,rfl⟩,a3⟩
   · exact ⟨a1,a2,a3⟩
 · obtain ⟨y,y1,y2⟩:=mem y' hy; rcases y2 with ⟨rfl,_⟩ | ⟨rfl,q⟩
   · rfl
   · exact q
 · obtain ⟨y,y1,y2⟩:=mem y' hy; rcases y2 with ⟨rfl,q⟩ | ⟨rfl,_⟩
   · rcases h.out x hx hv y y1 with r | ⟨r,_⟩
     · exact .inl r
     · rw [q] at r; cases r
   · exact h.out x hx hv _ y1
 · obtain ⟨y,y1,y2⟩:=mem y' hy; rcases y2 with ⟨rfl,_⟩ | ⟨rfl,_⟩
   · exact h.bad x hx hv y y1 hf hg
   · exact h.bad x hx hv _ y1 hf hg
 · exact zmC (hlt _ (h.mrk x (zb1 hk)))
theorem FairD.app {i pre d} (h:FairD i pre d) {e:zab} (hlt:∀ f∈pre,lessS f.Stamp e.Stamp=true):FairD i (pre++[e]) { d with marks:=d.marks++[⟨e,d.watch.Suspended⟩] }:=by
 have h':=h.mono e; refine ⟨fun x hx=>?_,h'.sAt,h.lift,h.lift2,fun x hx hv y hy=>?_,fun x hx hv y hy hf hg=>?_,fun k x hk hp=>?_,h'.st,h.good,?_⟩
 · rcases zb3.1 hx with hx | hx
   · exact h'.mrk x hx
   · rw [zcV.1 hx]; simp
 · rcases zb3.1 hx with hx | hx
   · exact h.out x hx hv y hy
   · rw [zcV.1 hx] at hv ⊢; have hl:=h.lift hv y hy; obtain ⟨f,f1,f2⟩:=(h.sAt y hy).2.1 hl; exact .inr ⟨hl,by rw [f2]; exact zmC (hlt f f1)⟩
 · rcases zb3.1 hx with hx | hx
   · exact h.bad x hx hv y hy hf hg
   · rw [zcV.1 hx]; obtain ⟨f,f1,f2⟩:=(h.sAt y hy).1; rw [f2]; exact hlt f f1
 · have hp':(k:Int) < d.period:=hp; have:=h.pos; rw [zow (by omega)] at hk; exact h.per k x hk hp'
 · have:=h.pos; simp only [zeU,zmV]; omega
theorem FairD.susp {i pre d} (h:FairD i pre d) {e:zab} (hlt:∀ f∈pre,lessS f.Stamp e.Stamp=true) (hw:d.watch.Suspended=false) {w:zdQ} (hn:w.Suspended=true) (no:List (zaL×Int)) {id:Int} (hid:id=(i:Int)):FairD i (pre++[e]) (suspS id e.Stamp { d with noted:=no,watch:=w }):=by
 have h':=h.mono e; subst hid; unfold suspS; simp only; generalize hg:(if d.some then d.good else d.started)=g
 have mem:∀ (k:Nat) (x':zbC),(d.marks.mapIdx (voidIf d.period (!d.some) g))[k]?=some x'→∃ x,d.marks[k]?=some x∧x'.event=x.event∧(x'.void=false→x.void=false∧¬ (d.period≤k∧(!d.some || lessS g x.event.Stamp)=true)):=by
  intro k x' hk; rw [zla] at hk
  cases hm:d.marks[k]? with
  | none=>rw [hm] at hk; cases hk
  | some x =>
    rw [hm] at hk; injection hk with hk; refine ⟨x,rfl,by rw [← hk,zwP],fun hv=>?_⟩; rw [← hk] at hv; unfold voidIf at hv; split at hv
    · cases hv
    · rename_i q; exact ⟨hv,q⟩
 have mem':∀ x'∈d.marks.mapIdx (voidIf d.period (!d.some) g),∃ (k:Nat) (x:zbC),d.marks[k]?=some x∧x'.event=x.event∧(x'.void=false→x.void=false∧¬ (d.period≤k∧(!d.some || lessS g x.event.Stamp)=true)):=fun x' hx=>by obtain ⟨k,hk⟩:=aLiAs53 hx; obtain ⟨x,q⟩:=mem k x' hk; exact ⟨k,x,q⟩
 refine ⟨fun x' hx=>?_,fun y hy=>?_,fun hh=>?_,fun _ k y hk=>?_,fun x' hx hv y hy=>?_,fun x' hx hv y hy hf hgd=>?_,fun k x' hk hp=>?_,h'.st,h.good,?_⟩
 · obtain ⟨k,x,q1,q2,_⟩:=mem' x' hx; rw [q2]; exact h'.mrk x (zb1 q1)
 · rcases zb3.1 hy with hy | hy
   · exact h'.sAt y hy
   · rw [zcV.1 hy]; exact ⟨⟨e,by simp,rfl⟩,fun hh=>absurd hh (by simp),rfl⟩
 · rw [hn] at hh; cases hh
 · rw [zeU,zmV]; by_cases hk':k < d.suspensions.length
   · rw [zow hk'] at hk; exact ⟨fun _=>h.lift hw y (zb1 hk),fun q=>absurd q (by omega)⟩
   · rw [List.getElem?_append_right (by omega)] at hk
     have:k - d.suspensions.length=0:=by have:=(zbH.1 hk).1; simp at this; omega
     rw [this] at hk; simp only [zh7,zaU] at hk; exact ⟨fun q=>absurd (by omega) q,fun _=>by rw [← hk]⟩
 · obtain ⟨k,x,q1,q2,q3⟩:=mem' x' hx; have hx0:=zb1 q1; rw [q2]; rcases zb3.1 hy with hy | hy
   · exact h.out x hx0 (q3 hv).1 y hy
   · rw [zcV.1 hy]; exact .inl (hlt _ (h.mrk x hx0))
 · obtain ⟨k,x,q1,q2,q3⟩:=mem' x' hx; have hx0:=zb1 q1; rw [q2] at hgd ⊢; rcases zb3.1 hy with hy | hy
   · exact h.bad x hx0 (q3 hv).1 y hy hf hgd
   · rw [zcV.1 hy] at hf hgd; simp only at hf hgd; exfalso; have hs:d.some=true:=by simpa using hf
     have hk:¬ d.period≤(k:Int):=fun hk=>(q3 hv).2 ⟨hk,by simp only [hgd,Bool.or_true]⟩
     have hp:=h.per k x q1 (by omega); rw [hs,if_pos rfl] at hg; rw [← hg] at hgd; rcases h.good hs with r | r
     · omega
     · rw [lessS_tr r hgd] at hp; cases hp
 · obtain ⟨x,q1,q2,_⟩:=mem k x' hk; rw [q2]; exact h.per k x q1 hp
 · have:=h.pos; simpa using this
theorem FairD.note {i pre d} (h:FairD i pre d) {e:zab} (hlt:∀ f∈pre,lessS f.Stamp e.Stamp=true) (s:zak) (p:zaJ) (sd:GSeed) (hid:e.Stamp.Source=(i:Int)):FairD i (pre++[e]) (noteS s p sd e d):=by
 have h':=h.mono e; unfold noteS; split
 · exact h'
 · simp only; split
   · exact ⟨h'.mrk,h'.sAt,h'.lift,h'.lift2,h'.out,h'.bad,h'.per,h'.st,h'.good,h'.pos⟩
   · split
     · exact ⟨h'.mrk,h'.sAt,h'.lift,h'.lift2,h'.out,h'.bad,h'.per,h'.st,h'.good,h'.pos⟩
     · rename_i hw; have hw:d.watch.Suspended=false:=by simpa using hw
       split
       · rename_i hn; exact h.susp hlt hw hn _ hid
       · rename_i hn; split
         · refine ⟨h'.mrk,h'.sAt,fun _=>h'.lift hw,fun q=>absurd q hn,h'.out,h'.bad,h'.per,h'.st,fun _=>?_,h'.pos⟩; rcases h.st with q | ⟨f,f1,f2⟩
           · exact .inl q
           · right; simp only; rw [f2]; exact hlt f f1
         · exact ⟨h'.mrk,h'.sAt,fun _=>h'.lift hw,fun q=>absurd q hn,h'.out,h'.bad,h'.per,h'.st,h'.good,h'.pos⟩
theorem given_of {s:zak} {l:List zab} {g:zbb} (h:g∈(foldS s l).Given):∃ (i:Nat) (d:zat) (x:zbC),i < 100∧(walkS s (canonS l)).1 i=some d∧x∈d.marks∧x.void=false∧g=zcJ i d x.event∧x.event∈canonS l∧markEv s i x.event=true:=by
 rw [zxa] at h; simp only at h; obtain ⟨i,hi,d,hd,p,hp,rfl⟩:=zsK.1 ((ze8 (lt:=zcx) _).mem_iff.1 h); obtain ⟨x,x1,x2,x3,_⟩:=countS_mem hp; have hm:=zu3 hd; have:x.event∈(canonS l).filter (markEv s i):=by rw [← hm]; exact zce.2 ⟨x,x1,rfl⟩
 obtain ⟨m1,m2⟩:=zgO.1 this; exact ⟨i,d,x,hi,hd,x1,x3,by rw [x2],m1,m2⟩
set_option maxRecDepth 20000
theorem elig_iff {l:List zbk} {n:Int} {x:zaE}:eligB l n x=true↔Elig l n x:=by
 unfold eligB Elig FitsM
 cases h:zrs l n with
 | none=>simp
 | some q =>
   obtain ⟨k,m⟩:=q; simp only [mayB,zcw,aLiAs90,bne_iff_ne,zaU,zbl]; constructor
   · intro h; exact ⟨k,m,⟨rfl,rfl⟩,h⟩
   · rintro ⟨_,_,⟨rfl,rfl⟩,h⟩; exact h
theorem few1000 {l:List zab} (h:l.length < 1000) (hp:∀ e∈l,e.Pages.length≤1000000):FewEv l:=
 ⟨by omega,by
  have h1:=zAB l; have h2:(keepS l).length≤(zcj l).length:=zmX _ _
  omega,hp⟩
theorem zqf {s:zak} (hs:zbP s) {l:List zab} {g:zbb} (h:g∈(foldS s l).Given):zkl s g∧g.Value≤40:=by
 obtain ⟨i,d,x,_,hd,hx,_,rfl,_⟩:=given_of h; have hm:x.event∈d.marks.map (·.event):=List.mem_map_of_mem hx; rw [zu3 hd] at hm; have hk:=(zgO.1 hm).2; unfold markEv at hk; simp only [zcw,beq_iff_eq] at hk; obtain ⟨⟨⟨hk,_⟩,hf⟩,_⟩:=hk; obtain ⟨q,hq⟩:=zch.1 hf; obtain ⟨x',p,y,h1,h2,h3,h4,h5,h6,h7,h8⟩:=zw9 hq; have hy:=((hs.okPaper (zeG h3).1).2.2.2.1 y (zb1 h5)).1
 have hv:-1≤x.event.Value∧x.event.Value≤y.Max:=by
  unfold permB at h7; rw [if_neg (show ¬ y.Kind=2 by omega)] at h7; split at h7
  · omega
  · simp only [decide_eq_true_eq] at h7; omega
 exact ⟨⟨x.event,⟨x',h1,hk,elig_iff.1 h2,q,p,y,h3,h4,h5,h6,hv,h8⟩,rfl,rfl,rfl⟩,by show x.event.Value≤40; omega⟩
theorem fold_len (s:zak) {l:List zab} (h:FewEv l):(foldS s l).Given.length≤1000:=by rw [zxa]; have h1:=zsJ s (canonS l) (walkS s (canonS l)).2 100; have h2:=(zgu l).length_eq; have h3:=h.2.1; have h4:=(ze8 (lt:=zcx) (zcR (walkS s (canonS l)).1 (walkS s (canonS l)).2 100)).length_eq; simp only; omega
theorem zuF {s:zak} (hs:zbP s) {l:List zab} (h:FewEv l):SmallM (foldS s l):=
 ⟨by have:=fold_len s h; omega,fun g hg=>by have:=(zqf hs hg).2; omega⟩
theorem zDS {s:zak} {g:zbb} (h:zkl s g):∃ x∈s.Scripts,x.Number=g.Script:=by obtain ⟨e,⟨x,h1,_⟩,h2,_⟩:=h; obtain ⟨h3,h4⟩:=zyc h1; exact ⟨x,h3,by rw [h4,h2]⟩
theorem sumT_bd:∀ (ps:List GPart) (ws vs:List Int),(∀ (j:Nat) (y:GPart) (w v:Int),ps[j]?=some y→ws[j]?=some w→vs[j]?=some v→0≤termT y w v∧termT y w v≤40)→0≤sumT ps ws vs∧sumT ps ws vs≤40*ps.length
 | [],_,_,_=>by simp [sumT]
 | y :: ps,[],_,_=>by simp [sumT]; omega
 | y :: ps,w :: ws,[],_=>by simp [sumT]; omega
 | y :: ps,w :: ws,v :: vs,h=>by have h1:=h 0 y w v rfl rfl rfl; have h2:=sumT_bd ps ws vs (fun j y w v a b c=>h (j+1) y w v a b c); rw [sumT,zgc]; omega
theorem totR_bd {q:za8} (hq:chkR q=0) {s:zak} (hs:zbP s) (m:zaG) (hg:∀ g∈m.Given,zkl s g) {x:zaE} (hx:x∈s.Scripts):(totR q s m x.Number).2.2=0∧0≤(totR q s m x.Number).2.1∧(totR q s m x.Number).2.1≤960:=by
 unfold totR; rw [if_pos hq,zlA hs.scripts.2.2 hx]; dsimp only; split
 case isFalse=>simp
 obtain ⟨k,p,c,hk,hc,_⟩:=hs.script x hx; rw [hk]; dsimp only; rw [hc,zeV]; have hok:=hs.schemes k p c (zeG hk).1 hc; have hpl:=hok.1.2.2.1
 have:=sumT_bd p.Parts c.Withdrawn ((verdS q s m x).map (·.Value)) (fun j y w v h1 h2 h3=>by
  have hj:=(zbH.1 h1).1; have hyo:=hok.1.2.2.2.1 y (zb1 h1); have hmx:=hyo.1; have hw:=(hok.2.2.2 j y (c.Keys[j]'(by have:=hok.2.1; omega)) w h1 (zau _) h2).2; unfold termT; split
  · omega
  · split
    · omega
    · have:=zAJ q s hs m hg x hx k p c hk hc j y w v h1 h2 h3 (by omega); unfold PermP at this
      split <;> split at this <;> omega)
 exact ⟨rfl,this.1,by have:=this.2; omega⟩
theorem c_movedBy {q:za8} (hq:chkR q=0) {s:zak} (hs:zbP s) (b n:zaG) (hb:SmallM b) (hn:SmallM n) (gb:∀ g∈b.Given,zkl s g) (gn:∀ g∈n.Given,zkl s g) {x:zaE} (hx:x∈s.Scripts):cw zjI [.agg (zbA q),.agg (zaj s),.agg (zaK b),.agg (zaK n),I x.Number] []=some (zjY (movedS q s b n x.Number,0)):=by
 refine zyY q s b n x.Number ?_; rw [c_TotalG q s hs b hb gb,zma,c_TotalG q s hs n hn gn,zma]; obtain ⟨b1,b2,b3⟩:=totR_bd hq hs b gb hx; obtain ⟨n1,n2,n3⟩:=totR_bd hq hs n gn hx; unfold movedS; generalize totR q s b x.Number=tb at b1 b2 b3; generalize totR q s n x.Number=tn at n1 n2 n3; obtain ⟨x1,x2,x3⟩:=tb; obtain ⟨y1,y2,y3⟩:=tn; simp only at b1 b2 b3 n1 n2 n3; subst b1 n1; simp only [bne_self_eq_false,zaB]; by_cases h1:x1=3
 · by_cases h2:y1=3
   · simp only [h1,h2,bne_self_eq_false,zaB,and_self,if_true]; rw [w6Q,w6Q]; rfl
   · have e:(if x1=3∧y1=3 then distI y2 x2 else 0)=0:=if_neg (fun h=>h2 h.2); rw [e]; simp only [h1,bne_self_eq_false,zaB,show (y1 != 3)=true by simpa using h2,zaZ]; rfl
 · have e:(if x1=3∧y1=3 then distI y2 x2 else 0)=0:=if_neg (fun h=>h1 h.1); rw [e]; simp only [show (x1 != 3)=true by simpa using h1,zaZ]; rfl
theorem znr (s:zak) (f:zaE→Option Int):(schedL s f).length≤s.Scripts.length:=zmX _ _
theorem zuO (l:List (Int×Int)):(openS l).length=l.length:=by simp [openS]
theorem zAR {l:List (Int×Int)} {e:zab} (h:e∈openS l):e.Pages=[]:=by unfold openS at h; obtain ⟨i,hi,rfl⟩:=List.mem_mapIdx.1 h; rfl
theorem zzc {s:zak} {ev:List zab} {l:List zai} (h:OkApp s ev l) (f:zaE→Option Int):FewEv (ev++openS (schedL s f)):=by
 obtain ⟨h1,h2,h3,_⟩:=h; have h4:=znr s f; have h5:=h1.scripts.1; refine few1000 (by rw [zeU,zuO]; omega) (fun e he=>?_); rcases zb3.1 he with he | he
 · exact h3 e he
 · rw [zAR he]; simp
theorem zBT {s:zak} {ev:List zab} {l:List zai} (h:OkApp s ev l) (t:Int):FewEv (untilS ev t):=by obtain ⟨h1,h2,h3,_⟩:=h; have h4:(untilS ev t).length≤ev.length:=zoB _ _; exact few1000 (by omega) (fun e he=>h3 e (zgO.1 he).1)
theorem few_ev {s:zak} {ev:List zab} {l:List zai} (h:OkApp s ev l):FewEv ev:=by obtain ⟨h1,h2,h3,_⟩:=h; exact few1000 (by omega) h3
theorem zyR (l:List zai):(appS l).1.length≤24:=by
 unfold appS; split
 · simp
 · rw [(ze8 _).length_eq]; omega
theorem filter_asc {c:List zai} (h:AscT c) (p:zai→Bool):AscT (c.filter p):=h.filter _
theorem c_Changed {r:zaM} {q:za8} {s:zak} {ev:List zab} {l:List zai} (h:OkApp s ev l):cw zm1 [.agg (zaP r),.agg (zbA q),.agg (zaj s),.sl 9 (List.map zaa ev),.sl 6 (List.map zag l)] []=some (zcT (zd5 r q s ev l)):=by
 have hs:=h.1; have h60:=hs.scripts.1; refine zyX r q s ev l ?_; unfold zd5; rw [c_ACheck,za3,zom,za3]; by_cases hA:chkA r=0
 case neg=>rw [if_neg (fun q=>hA q.1),show (chkA r != 0)=true by simpa using hA]; rfl
 by_cases hR:chkR q=0
 case neg=>rw [if_neg (fun q=>hR q.2),hA,show (chkR q != 0)=true by simpa using hR]; rfl
 rw [if_pos ⟨hA,hR⟩,hA,hR,znF hs,za3,zpj h.2.2.2,ze2]; simp only [bne_self_eq_false,zaB]; by_cases hE:(appS l).2=0
 case neg=>rw [if_neg hE,show ((appS l).2 != 0)=true by simpa using hE]; rfl
 rw [if_pos hE,hE]; simp only [bne_self_eq_false,zaB]; have hc24:=zyR l; have hasc:=appS_asc l; generalize appS l=ap at hE hc24 hasc; obtain ⟨c,e0⟩:=ap; simp only at hE hc24 hasc ⊢; have hT:Times s (timeS s ⟨[],[]⟩ (c.filter fun a=>a.Kind == 0)) (schedM s ⟨[],[]⟩ (c.filter fun a=>a.Kind == 0) []):=zyi hs _ (filter_asc hasc _)
 have tail:∀ (M:List (Int×Int)),M=schedM s ⟨[],[]⟩ (c.filter fun a=>a.Kind == 0) []→zfm r q s ev (c,e0) (List.map zaF M) (c.length:Int)=some (zcT (zet r q s ev c,0)):=by
  intro M hM; subst hM; refine zpt _ _ _ _ _ _ _ ?_; rw [zaq,zaW (by simp),c_open hs hT,ziY,c_with ev _ (by have:=h.2.1; omega) (by rw [zuO]; have:=znr s (timeS s ⟨[],[]⟩ (c.filter fun a=>a.Kind == 0)); omega),ziY,c_fold_d hs (zzc h _),znJ]; simp only [bne_self_eq_false,zaB]; rw [c_keysL,zfU,zBP _ (by have:=hT.few hs; omega) (hT.w hs) hT.nd,zes,hT.keys hs]; have hfind:=fun p hp=>hT.find (p:=p) hp
  have hin:∀ p∈zeZ s c,∃ x∈s.Scripts,x.Number=p.1:=fun p hp=>by obtain ⟨x,hx,_,e⟩:=zr7.1 hp; exact ⟨x,hx,e⟩
  have hlen:(zeZ s c).length≤60:=by have:=znr s (timeS s ⟨[],[]⟩ (c.filter fun a=>a.Kind == 0)); unfold zeZ; omega
  have hnow:=zzc h (timeS s ⟨[],[]⟩ (c.filter fun a=>a.Kind == 0)); unfold zet; generalize schedM s ⟨[],[]⟩ (c.filter fun a=>a.Kind == 0) []=M at hfind; change (∀ p∈zeZ s c,mfind p.1 M=some p.2) at hfind; change zdc r q s ev (List.map zaF M) (foldS s (ev++openS (zeZ s c)),0) ((zeZ s c).map (·.1)) [] [] 0=_; change FewEv (ev++openS (zeZ s c)) at hnow; have gnow:∀ g∈(foldS s (ev++openS (zeZ s c))).Given,zkl s g:=fun g hg=>(zqf hs hg).1
  have snow:=zuF hs hnow; generalize foldS s (ev++openS (zeZ s c))=now at gnow snow; generalize zeZ s c=L at hfind hin hlen; refine zcn L (fun i rest=>∀ (out:List Int) (bm:List (Int×zaG)),(out.length:Int)≤i→(∀ t g,mfind t bm=some g→g=foldS s (untilS ev t))→zdc r q s ev (List.map zaF M) (now,0) (L.map (·.1)) (List.map zaf out) (List.map zeN bm) i=some (zcT (out++(rest.filter fun p=>decide (r.Tolerance < movedS q s (foldS s (untilS ev p.2)) now p.1)).map (·.1),0))) ?_ ?_ [] [] (by simp) (fun t g hh=>by simp [mfind] at hh)
  · intro out bm ho hb; refine zpv _ _ _ _ _ _ _ _ _ _ ?_; rw [zaq,zaq,zaW (by omega),cPQ,ziE]; simp only [zoA,zoF,zmY]; rfl
  · intro i hi rest _ ih out bm ho hb; have hmem:=zbt hi; have hf:=hfind _ hmem; obtain ⟨x,hx,hxn⟩:=hin _ hmem; refine zpv _ _ _ _ _ _ _ _ _ _ ?_; rw [zaq,zaq,zaC (by omega),cPQ,zbf,zbX,zcQ,zau hi,zde,zaS,zrq,hf,zeV,zjW]; rw [zgb]; generalize L[i]=p at hf hxn hmem ⊢; have sb:=zuF hs (zBT h p.2); have gb:∀ g∈(foldS s (untilS ev p.2)).Given,zkl s g:=fun g hg=>(zqf hs hg).1
    have mv:=c_movedBy hR hs (foldS s (untilS ev p.2)) now sb snow gb gnow hx; rw [hxn] at mv
    have step:∀ bm':List (Int×zaG),(∀ t g,mfind t bm'=some g→g=foldS s (untilS ev t))→brn (decide (r.Tolerance < movedS q s (foldS s (untilS ev p.2)) now p.1))
      (zdc r q s ev (List.map zaF M) (now,0) (L.map (·.1)) (List.map zaf out++[zaf p.1]) (List.map zeN bm') (i+1))
      (zdc r q s ev (List.map zaF M) (now,0) (L.map (·.1)) (List.map zaf out) (List.map zeN bm') (i+1)) =
      some (zcT (out++(if decide (r.Tolerance < movedS q s (foldS s (untilS ev p.2)) now p.1)=true then p :: (rest.filter fun p=>decide (r.Tolerance < movedS q s (foldS s (untilS ev p.2)) now p.1)) else rest.filter fun p=>decide (r.Tolerance < movedS q s (foldS s (untilS ev p.2)) now p.1)).map (·.1),0)):=by
     intro bm' hb'
     cases decide (r.Tolerance < movedS q s (foldS s (untilS ev p.2)) now p.1) with
     | true=>rw [zaZ,if_pos rfl,zcS zaf,ih (out++[p.1]) bm' (by simp; omega) hb',zi9]; rfl
     | false=>rw [zaB,iNs]; exact ih out bm' (by omega) hb'
    cases hbm:mfind p.2 bm with
    | none =>
      simp only [zqX,zdE,zaZ]; rw [c_Until ev p.2 (by have:=h.2.1; omega) h.2.2.1,zkC,show List.length (List.map zaa (untilS ev p.2))=(List.map zaa (untilS ev p.2)).length from rfl,c_fold hs (zBT h p.2),zwe]; simp only [bne_self_eq_false,zaB]; rw [zu1]; refine ztK _ _ _ _ _ _ _ _ _ _ _ _ ?_; rw [zjW,zeT,zeV,mv,zjF]; simp only [bne_self_eq_false,zaB]; rw [zbz,zam (by simp; omega),zbz,w6Q]; refine step _ (fun t g hg=>?_); rw [zqh] at hg; split at hg
      · rename_i e; injection hg with hg; rw [← hg,e]
      · exact hb t g hg
    | some g=>have hge:=hb _ _ hbm; simp only [zk8,zb6,zaB]; refine zrQ _ _ _ _ _ _ _ _ _ _ _ _ ?_; rw [zjW,hbm,zeV,hge,mv,zjF]; simp only [bne_self_eq_false,zaB]; rw [zbz,zam (by simp; omega),zbz,w6Q]; exact step bm hb
 refine zcn c (fun i rest=>∀ M:List (Int×Int),schedM s ⟨[],[]⟩ (rest.filter fun a=>a.Kind == 0) M=schedM s ⟨[],[]⟩ (c.filter fun a=>a.Kind == 0) []→zfm r q s ev (c,e0) (List.map zaF M) i=some (zcT (zet r q s ev c,0))) ?_ ?_ [] rfl
 · intro M hM; exact tail M hM
 · intro i hi rest _ ih M hM; refine zpt _ _ _ _ _ _ _ ?_; rw [zaq,zaC (show (i:Int) < (c.length:Int) by omega),cPQ,zbf,zeA,zau hi,zaS,w6Q]; rw [zgb] at hM; generalize c[i]=a at hM ⊢; by_cases hk:a.Kind=0
   case neg=>rw [show (a.Kind != 0)=true by simpa using hk,zaZ]; rw [if_neg (by simpa using hk)] at hM; exact ih M hM
   rw [show (a.Kind != 0)=false by simpa using hk,zaB,zw7 hs.scripts (by have:=hs.seeds; omega) ⟨[],[]⟩ (by simp) a,zes]; rw [if_pos (by simpa using hk)] at hM; change schedM s ⟨[],[]⟩ (rest.filter fun a=>a.Kind == 0) (addL (scopeL s ⟨[],[]⟩ a) a.Stamp.Time M)=_ at hM
   have hsl:(scopeL s ⟨[],[]⟩ a).length≤60:=by unfold scopeL; rw [zaq]; have:=zoB (scopeB s ⟨[],[]⟩ a) s.Scripts; omega
   generalize scopeL s ⟨[],[]⟩ a=sc at hM hsl; refine zcn sc (fun j rs=>∀ M:List (Int×Int),schedM s ⟨[],[]⟩ (rest.filter fun a=>a.Kind == 0) (addL rs a.Stamp.Time M)=schedM s ⟨[],[]⟩ (c.filter fun a=>a.Kind == 0) []→zii r q s ev (c,e0) i a sc (List.map zaF M) j=some (zcT (zet r q s ev c,0))) ?_ ?_ M hM
   · intro M hM; refine zpu _ _ _ _ _ _ _ _ _ _ ?_; rw [zaq,zaW (by omega),w6Q]; exact ih M hM
   · intro j hj rs _ ihj M hM; refine zpu _ _ _ _ _ _ _ _ _ _ ?_; rw [zaq,zaC (by omega),cPQ,zbf,zbX,zau hj,zaS,c_add,zhb,w6Q]; exact ihj _ hM
theorem c_blamed (r:zaM) {s:zak} (hs:zbP s) (m:zaG) (hm:m.Given.length≤1000000) (ch:List Int) (hn:ch.Nodup) (hc:ch.length≤1000):cw znO [.agg (zaP r),.agg (zaj s),.agg (zaK m),.sl 1 (List.map zaf ch)] []=some (zh3 (zhZ r s m ch)):=by
 have h16:=hs.markers.1; refine zAj r s m ch ?_; refine zcn s.Markers (fun i rest=>∀ out:List Int,(out.length:Int)≤i→zfT r s m ch (List.map zaf out) i=some (zh3 (out++(rest.filter fun x=>x.Level == 1 && decide (r.Fails≤(ch.filter (marksB m x.ID)).length)).map (·.ID)))) ?_ ?_ [] (by simp)
 · intro out ho; refine zp4 _ _ _ _ _ _ ?_; rw [zaq,zaW (by omega),zam rfl,zoA,zoF,zmY]; rfl
 · intro i hi rest _ ih out ho; refine zp4 _ _ _ _ _ _ ?_; rw [zaq,zaC (by omega),cPQ,zbf,zeB,zau hi,zaS,w6Q,zgb]; generalize s.Markers[i]=x; by_cases hl:x.Level=1
   case neg=>rw [show (x.Level != 1)=true by simpa using hl,zaZ,show (x.Level == 1)=false by simpa using hl,zjb,iNs]; exact ih out (by omega)
   rw [show (x.Level != 1)=false by simpa using hl,zaB,show (x.Level == 1)=true by simpa using hl,zhn,zul m _ hm,zgH]; refine zcn ch (fun j rs=>∀ f:List (Int×Bool),setM (rs.filter (marksB m x.ID)) f=setM (ch.filter (marksB m x.ID)) []→zg8 r s m ch (List.map zaf out) i x (setM (markL m x.ID) []) (List.map za4 f) j=some (zh3 (out++(if decide (r.Fails≤(ch.filter (marksB m x.ID)).length)=true then x :: (rest.filter fun x=>x.Level == 1 && decide (r.Fails≤(ch.filter (marksB m x.ID)).length)) else rest.filter fun x=>x.Level == 1 && decide (r.Fails≤(ch.filter (marksB m x.ID)).length)).map (·.ID)))) ?_ ?_ [] rfl
   · intro f hf
     have hfl:f.length=(ch.filter (marksB m x.ID)).length:=by change f=_ at hf; rw [hf,zuZ _ _ (hn.filter _) (fun _ _=>rfl)]; simp
     refine zp5 _ _ _ _ _ _ _ _ _ _ ?_; rw [zaq,zaW (by omega),zaq,hfl,w6Q]
     cases decide (r.Fails≤((ch.filter (marksB m x.ID)).length:Int)) with
     | true=>rw [zaZ,zam rfl,zam (by simp; omega),zam rfl,zcS zaf,ih (out++[x.ID]) (by simp; omega),if_pos rfl,zi9]; rfl
     | false=>rw [zaB,iNs]; exact ih out (by omega)
   · intro j hj rs _ ihj f hf; refine zp5 _ _ _ _ _ _ _ _ _ _ ?_; rw [zaq,zaC (by omega),cPQ,zbf,zbX,zau hj,zaS,zh1,zzn,w6Q]; rw [zgb] at hf
     cases hb:marksB m x.ID ch[j] with
     | true=>rw [zaZ,zh5]; rw [if_pos hb] at hf; exact ihj _ hf
     | false=>rw [zaB]; rw [if_neg (by rw [hb]; simp)] at hf; exact ihj _ hf
theorem zEr {r:zaM} {q:za8} {s:zak} (hs:zbP s) (ev:List zab) (c:List zai):(zet r q s ev c).Pairwise (· < ·):=by unfold zet; have h:=zCe hs (timeS s ⟨[],[]⟩ (c.filter fun a=>a.Kind == 0)); change ((zeZ s c).map (·.1)).Pairwise (· < ·) at h; rw [zoG] at h ⊢; exact h.filter _
theorem zEs {r:zaM} {q:za8} {s:zak} (hs:zbP s) (ev:List zab) (c:List zai):(zet r q s ev c).length≤60:=by unfold zet; rw [zaq]; have h1:=zoB (fun p:Int×Int=>decide (r.Tolerance < movedS q s (foldS s (untilS ev p.2)) (foldS s (ev++openS (zeZ s c))) p.1)) (zeZ s c); have h2:=znr s (timeS s ⟨[],[]⟩ (c.filter fun a=>a.Kind == 0)); have h3:=hs.scripts.1; unfold zeZ at h1 ⊢; omega
end Go.Proofs.YtlecnobdfhlmnaaGreat
end
