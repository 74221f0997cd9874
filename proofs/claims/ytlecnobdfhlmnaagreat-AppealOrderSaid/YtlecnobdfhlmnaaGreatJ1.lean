/- Scripts, seeds, setups that the dice make. -/
import Derived.Test.YtlecnobdfhlmnaaGreatJ0
import Derived.Test.YtlecnobdfhlmnaaGreatXAnn
import Derived.Test.YtlecnobdfhlmnaaGreatAb9
set_option linter.unusedSimpArgs false
set_option linter.unusedVariables false
set_option linter.unusedSectionVars false
noncomputable section
namespace Go.Proofs.YtlecnobdfhlmnaaGreat
open Go.Ab
theorem asc_snoc {α:Type} {f:α→Int} {l:List α} {m:α} (h1:AscBy f l) (h2:∀ x∈l,f x < f m):AscBy f (l++[m]):=by
 intro j hj; simp at hj; by_cases h:j+1 < l.length
 · rw [zox (by omega),zox h]; exact h1 j h
 · have hj':j+1=l.length:=by omega
   rw [zox (by omega),List.getElem_append_right (by omega)]; simpa using h2 _ (zbt (by omega))
def zmU (n:Int) (p:zaJ) (x:zaE):Prop:=
 x.Paper=p.Code∧x.Variant=p.Variant∧x.Number=p.Code*10000+x.Candidate∧(1≤x.Candidate∧x.Candidate≤n)∧(1≤x.Centre∧x.Centre≤3)∧x.Pages.length=2∧(∀ y∈x.Pages,0≤y∧y≤1000000)∧OkAns p x.Answers
theorem c_Script (d:zac) (p:zaJ) (c n:Int) (hd:DOk d) (hp:DPaper p) (h1:0≤p.Code∧p.Code≤31) (hc:1≤c∧c≤n) (hn:n≤9):∃ (x:zaE) (d':zac),cw zll [.loc 1000 2 0 0,.agg (zaT p),I c] (mD d)=some (zir (x,d'))∧zmU n p x∧x.Candidate=c∧DOk d':=by
 have hl:=hp.1; obtain ⟨n0,d0,e0,a0,b0,hd0⟩:=zcc d 3 hd (by omega); obtain ⟨n1,d1,e1,a1,b1,hd1⟩:=zcc d0 3 hd0 (by omega); have loop:=zcn p.Parts (fun i r=>∀ (a:List Int) (d2:zac),(a.length:Int)=i→DOk d2→(∀ (j:Nat) (x:GPart) (v:Int),p.Parts[j]?=some x→a[j]?=some v→x.Kind≠1→-2≤v∧v < x.Options)→∃ (x:zaE) (d':zac),zfH d p c (n0,d0) (n1,d1) (List.map zaf a) d2 i=some (zir (x,d'))∧zmU n p x∧x.Candidate=c∧DOk d') ?_ ?_ [] d1 (by simp) hd1 (by intro j x v _ h; simp at h)
 · obtain ⟨x,d',e2,h⟩:=loop; refine ⟨x,d',zwm d p c ?_,h⟩; simp only [e0,e1,zaX]; exact e2
 · intro a d2 ha hd2 hok; refine ⟨⟨p.Code*10000+c,p.Code,c,1+n0,p.Variant,[100*c+p.Code,n1],a⟩,d2,zj8 _ _ _ _ _ _ _ _ ?_,?_,rfl,hd2⟩
   · simp (disch:=omega) only [zaq,zaW,zb9,zcb,zbz,w64_id]; rw [zcG (by simp),zcG (by simp)]; rfl
   · refine ⟨rfl,rfl,rfl,hc,by dsimp only; omega,rfl,?_,by dsimp only; omega,hok⟩; intro y hy; simp only [zbV,zf8,or_false] at hy; omega
 · intro i hi r hr ih a d2 ha hd2 hok; obtain ⟨hx,_⟩:=hp.2.2.1 _ (zbt hi)
   have snoc:∀ v:Int,(p.Parts[i].Kind≠1→-2≤v∧v < p.Parts[i].Options)→∀ (j:Nat) (x:GPart) (w:Int),p.Parts[j]?=some x→(a++[v])[j]?=some w→x.Kind≠1→-2≤w∧w < x.Options:=by
    intro v hv j x w hj hw; by_cases hja:j < a.length
    · rw [zow hja] at hw; exact hok j x w hj hw
    · have:=(zbH.1 hw).1; simp at this; have hji:j=a.length:=by omega
      subst hji; simp at hw; subst hw; have:i=a.length:=by omega
      subst this; rw [zau hi] at hj; injection hj with hj; subst hj; exact hv
   rcases kind2 hx with hk | hk
   · obtain ⟨x,d',e2,h⟩:=ih (a++[-1]) d2 (by simp; omega) hd2 (snoc _ (fun h=>absurd hk h)); refine ⟨x,d',zj8 _ _ _ _ _ _ _ _ ?_,h⟩; simp (disch:=omega) only [zaq,zaC,zam,zbz,zbf,zdF,zau hi,zaS,show (p.Parts[i].Kind == 2)=false by rw [hk]; rfl,zaB,w64_id,zcS zaf,e2]
   · obtain ⟨v,d3,e3,hv,hd3⟩:=c_Pick d2 [p.Parts[i].Key,0,1,-1,-2] hd2 (by simp) (by simp)
     have hv':-2≤v∧v < p.Parts[i].Options:=by unfold OkPart at hx; simp only [zbV,zf8,or_false] at hv; omega
     obtain ⟨x,d',e2,h⟩:=ih (a++[v]) d3 (by simp; omega) hd3 (snoc _ (fun _=>hv')); refine ⟨x,d',zj8 _ _ _ _ _ _ _ _ ?_,h⟩; simp (disch:=omega) only [zaq,zaC,zam,zbz,zbf,zdF,zau hi,zaS,show (p.Parts[i].Kind == 2)=true by rw [hk]; rfl,zaZ,e3,zaX,w64_id,zcS zaf,e2]
def ztR (n:Int) (ps:List zaJ) (l:List zaE):Prop:=(∀ x∈l,∃ p∈ps,zmU n p x)∧AscBy zaE.Number l∧(l.length:Int)≤2*n
theorem c_Scripts (d:zac) (ps:List zaJ) (n:Int) (hd:DOk d) (hps:zlK ps) (hn:0≤n∧n≤9):∃ (l:List zaE) (d':zac),cw zkI [.loc 1000 2 0 0,.sl 3 (List.map zaT ps),I n] (mD d)=some (zhO (l,d'))∧ztR n ps l∧DOk d':=by
 have hpl:=hps.2.1
 let Inv:Int→List zaE→Prop:=fun code l=>(∀ x∈l,(∃ p∈ps,zmU n p x)∧x.Number < code*10000)∧AscBy zaE.Number l∧(l.length:Int)≤code*n
 let Res:Option (AV×Mem)→Prop:=fun o=>∃ (l:List zaE) (d':zac),o=some (zhO (l,d'))∧ztR n ps l∧DOk d'
 have stage2:∀ (out:List zaE) (d:zac),Inv 2 out→DOk d→Res (zdW ps n (List.map za0 out) d 2):=by intro out d hi hd; refine ⟨out,d,znw _ _ _ _ _ ?_,⟨fun x hx=>(hi.1 x hx).1,hi.2.1,hi.2.2⟩,hd⟩; simp (disch:=omega) only [zaW,zbz]; rfl
 have step:∀ (code:Int),0≤code→code≤1→(∀ (out:List zaE) (d:zac),Inv (code+1) out→DOk d→Res (zdW ps n (List.map za0 out) d (code+1)))→∀ (out:List zaE) (d:zac),Inv code out→DOk d→Res (zdW ps n (List.map za0 out) d code):=by
  intro code hc0 hc1 next out d hi hd
  have third:∀ (l:List zaJ),(∀ p∈l,p∈ps∧p.Code=code)→l.length≤3→∀ (m:Nat) (c:Int) (out:List zaE) (d:zac),c+m=n+1→1≤c→(∀ x∈out,(∃ p∈ps,zmU n p x)∧x.Number < code*10000+c)→AscBy zaE.Number out→(out.length:Int)≤code*n+(c - 1)→DOk d→Res (zfr ps n code (List.map zaT l) (List.map za0 out) d c):=by
   intro l hl hll m
   induction m with
   | zero =>
     intro c out d hc h1 g1 g2 g3 hd; obtain ⟨l',d',e1,h⟩:=next out d ⟨fun x hx=>⟨(g1 x hx).1,by have:=(g1 x hx).2; rw [zqV]; omega⟩,g2,by rw [zqV]; omega⟩ hd
     refine ⟨l',d',zgY _ _ _ _ _ _ _ ?_,h⟩; simp (disch:=omega) only [zaW,w64_id,e1]
   | succ m ih =>
     intro c out d hc h1 g1 g2 g3 hd; have hcn:code*n≤9:=by rcases (by omega:code=0∨code=1) with h | h <;> rw [h] <;> omega
     have hol:out.length≤20:=by omega
     by_cases hlz:0 < l.length
     · obtain ⟨n0,d0,e0,a0,b0,hd0⟩:=zcc d 5 hd (by omega); by_cases h0:0 < n0
       · obtain ⟨n1,d1,e1,a1,b1,hd1⟩:=zcc d0 l.length hd0 (by omega); have hlt:n1.toNat < l.length:=by omega
         obtain ⟨hp1,hp2⟩:=hl _ (zbt hlt); obtain ⟨q1,q2,q3⟩:=hps.2.2.1 _ hp1; obtain ⟨x,d2,e2,hx,hxc,hd2⟩:=c_Script d1 l[n1.toNat] c n hd1 q1 (by omega) (by omega) hn.2; have hxn:=hx.2.2.1
         obtain ⟨l',d',e3,h⟩:=ih (c+1) (out++[x]) d2 (by omega) (by omega)
          (by
           intro y hy; rcases zb3.1 hy with hy | hy
           · exact ⟨(g1 y hy).1,by have:=(g1 y hy).2; omega⟩
           · simp only [zcV] at hy; subst hy
             exact ⟨⟨_,hp1,hx⟩,by rw [hxn,hp2,hxc]; omega⟩)
          (asc_snoc g2 (fun y hy=>by rw [hxn,hp2,hxc]; exact (g1 y hy).2))
          (by simp; omega) hd2
         refine ⟨l',d',zgY _ _ _ _ _ _ _ ?_,h⟩; simp (disch:=omega) only [zaq,zaC,e0,zaX,e1,zam,zbz,zb9,ze4,zau hlt,zaS,e2,zss,w64_id,zcS za0,e3]
       · obtain ⟨l',d',e3,h⟩:=ih (c+1) out d0 (by omega) (by omega) (fun y hy=>⟨(g1 y hy).1,by have:=(g1 y hy).2; omega⟩) g2 (by omega) hd0; refine ⟨l',d',zgY _ _ _ _ _ _ _ ?_,h⟩; simp (disch:=omega) only [zaq,zaC,zaW,e0,zaX,w64_id,e3]
     · obtain ⟨l',d',e1,h⟩:=next out d ⟨fun x hx=>⟨(g1 x hx).1,by have:=(g1 x hx).2; rw [zqV]; omega⟩,g2,by rw [zqV]; omega⟩ hd
       refine ⟨l',d',zgY _ _ _ _ _ _ _ ?_,h⟩; simp (disch:=omega) only [zaq,zaC,zaW,w64_id,e1]
  have second:=zcn ps (fun i r=>∀ l:List zaJ,(∀ p∈l,p∈ps∧p.Code=code)→(l.length:Int)≤i→Res (zfq ps n (List.map za0 out) d code (List.map zaT l) i)) ?_ ?_ [] (by simp) (by simp)
  · obtain ⟨l',d',e1,h⟩:=second; refine ⟨l',d',znw _ _ _ _ _ ?_,h⟩; simp (disch:=omega) only [zaC]; exact e1
  · intro l hl hll; obtain ⟨l',d',e1,h⟩:=third l hl (by omega) n.toNat 1 out d (by omega) (by omega) (fun x hx=>⟨(hi.1 x hx).1,by have:=(hi.1 x hx).2; omega⟩) hi.2.1 (by have:=hi.2.2; omega) hd; refine ⟨l',d',zjq _ _ _ _ _ _ _ ?_,h⟩; simp (disch:=omega) only [zaq,zaW,e1]
  · intro i hi' r hr ih l hl hll; by_cases hcode:ps[i].Code=code
    · obtain ⟨l',d',e1,h⟩:=ih (l++[ps[i]]) (by
       intro p hp; rcases zb3.1 hp with hp | hp
       · exact hl p hp
       · simp only [zcV] at hp; subst hp
         exact ⟨zbt hi',hcode⟩) (by simp; omega)
      refine ⟨l',d',zjq _ _ _ _ _ _ _ ?_,h⟩; simp (disch:=omega) only [zaq,zaC,zam,zbz,zbf,ze4,zau hi',zaS,show (ps[i].Code == code)=true by simpa using hcode,zaZ,w64_id,zcS zaT,e1]
    · obtain ⟨l',d',e1,h⟩:=ih l hl (by omega); refine ⟨l',d',zjq _ _ _ _ _ _ _ ?_,h⟩; simp (disch:=omega) only [zaq,zaC,zam,zbz,zbf,ze4,zau hi',zaS,show (ps[i].Code == code)=false by simpa using hcode,zaB,w64_id,e1]
 have stage1:=step 1 (by omega) (by omega) stage2; have stage0:=step 0 (by omega) (by omega) stage1; obtain ⟨l,d',e1,h⟩:=stage0 [] d ⟨by simp,fun j hj=>by simp at hj,by simp⟩ hd; exact ⟨l,d',zvB d ps n e1,h⟩
def zz4:zaJ:=⟨0,0,[]⟩
theorem zum (ps:List zaJ) (x:zaE) (hl:ps.length≤1000000):cw zlm [.sl 3 (List.map zaT ps),.agg (za0 x)] []=some (zn2 (((zd3 ps x).map (·.2)).getD zz4)):=by
 refine zDO ps x ?_; have key:=ziM ps (fun p=>p.Code == x.Paper && p.Variant == x.Variant) (fun i=>zji ps x i) (fun o=>zn2 ((o.map (·.2)).getD zz4)) ?_ ?_ ?_
 · exact key
 · exact zo7 _ _ _ (by simp (disch:=omega) [zaW] <;> rfl)
 · intro i hi h; refine zo7 _ _ _ ?_; rw [zcw] at h; simp (disch:=omega) [zaC,zam,h.1,h.2]; rfl
 · intro i hi y h hk; refine zo7 _ _ _ ?_
   cases h1:(ps[i].Code == x.Paper) with
   | false=>simp (disch:=omega) [zaC,zam,w64_id,h1,hk]
   | true=>rw [h1,zhn] at h; simp (disch:=omega) [zaC,zam,w64_id,h1,h,hk]
theorem c_Seed (d:zac) (ps:List zaJ) (x:zaE) (k:Nat) (p:zaJ) (hd:DOk d) (hps:ps.length≤1000000) (hk:zd3 ps x=some (k,p)) (hp:DPaper p):∃ (y:GSeed) (d':zac),cw zm5 [.loc 1000 2 0 0,.sl 3 (List.map zaT ps),.agg (za0 x)] (mD d)=some (zj0 (y,d'))∧y.Script=x.Number∧zqt p y.Marks∧DOk d':=by
 have hl:=hp.1; have loop:=zcn p.Parts (fun i r=>∀ (a:List Int) (d2:zac),(a.length:Int)=i→DOk d2→(∀ (j:Nat) (x:GPart) (v:Int),p.Parts[j]?=some x→a[j]?=some v→0≤v∧v≤x.Max)→∃ (y:GSeed) (d':zac),zil x p (List.map zaf a) d2 i=some (zj0 (y,d'))∧y.Script=x.Number∧zqt p y.Marks∧DOk d') ?_ ?_ [] d (by simp) hd (by intro j x v _ h; simp at h)
 · obtain ⟨y,d',e2,h⟩:=loop; refine ⟨y,d',zy4 d ps x ?_,h⟩; simp only [zum ps x hps,hk,zjG]; exact e2
 · intro a d2 ha hd2 hok; refine ⟨⟨x.Number,a⟩,d2,zpB _ _ _ _ _ ?_,rfl,⟨by dsimp only; omega,hok⟩,hd2⟩; simp (disch:=omega) only [zaq,zaW,zb9,zcb,zbz,w64_id]; rw [zcG (by simp)]; rfl
 · intro i hi r hr ih a d2 ha hd2 hok; obtain ⟨hx,hx2⟩:=hp.2.2.1 _ (zbt hi); have hm:=hx.1; obtain ⟨v,d3,e3,a3,b3,hd3⟩:=zcc d2 (p.Parts[i].Max+1) hd2 (by omega)
   obtain ⟨y,d',e2,h⟩:=ih (a++[v]) d3 (by simp; omega) hd3 (by
    intro j x w hj hw; by_cases hja:j < a.length
    · rw [zow hja] at hw; exact hok j x w hj hw
    · have:=(zbH.1 hw).1; simp at this; have hji:j=a.length:=by omega
      subst hji; simp at hw; subst hw; have:i=a.length:=by omega
      subst this; rw [zau hi] at hj; injection hj with hj; subst hj
      omega)
   refine ⟨y,d',zpB _ _ _ _ _ ?_,h⟩; simp (disch:=omega) only [zaq,zaC,zam,zbz,zbf,zdF,zau hi,zaS,w64_id,e3,zaX,zcS zaf,e2]
theorem c_Monitor (d:zac) (hd:DOk d):∃ (r:zbr) (d':zac),cw zkH [.loc 1000 2 0 0] (mD d)=some (zkK (r,d'))∧OkMon r∧DOk d':=by obtain ⟨n0,d0,e0,a0,b0,hd0⟩:=zcc d 3 hd (by omega); obtain ⟨n1,d1,e1,a1,b1,hd1⟩:=zcc d0 2 hd0 (by omega); obtain ⟨n2,d2,e2,a2,b2,hd2⟩:=zcc d1 3 hd1 (by omega); obtain ⟨n3,d3,e3,a3,b3,hd3⟩:=zcc d2 (1+n0) hd2 (by omega); refine ⟨⟨n1,n2,1+n0,1+n3⟩,d3,zvA d ?_,by refine ⟨?_,?_,?_,?_⟩ <;> dsimp only <;> omega,hd3⟩; simp (disch:=omega) only [e0,e1,e2,zaX,w64_id,e3]; rfl
structure DSetup (s:zak):Prop where
 ok:zbP s
 papers:zlK s.Papers
 markers:DMarkers s.Markers
 scripts:ztR 4 s.Papers s.Scripts
theorem zuP {ps:List zaJ} (hps:zlK ps) {n:Int} {p:zaJ} {x:zaE} (hp:p∈ps) (hx:zmU n p x):∃ k,zd3 ps x=some (k,p):=by
 unfold zd3
 cases hf:fnd (fun p=>p.Code == x.Paper && p.Variant == x.Variant) 0 ps with
 | none=>have:=zoW.1 hf p hp; rw [hx.1,hx.2.1] at this; simp at this
 | some q=>obtain ⟨k,p'⟩:=q; obtain ⟨h1,h2,_⟩:=fnd_at hf; simp only [zcw,beq_iff_eq] at h2; have:=hps.2.2.2 p' (zb1 h1) p hp (by rw [h2.1,hx.1]) (by rw [h2.2,hx.2.1]); rw [this]; exact ⟨k,rfl⟩
theorem scripts_ok {n:Int} (hn:n≤9) {ps:List zaJ} (hps:zlK ps) {l:List zaE} (h:ztR n ps l):zju l:=by refine ⟨by have:=h.2.2; omega,fun x hx=>?_,h.2.1⟩; obtain ⟨p,hp,a,b,c,d,e,f,_⟩:=h.1 x hx; obtain ⟨q1,q2,q3⟩:=hps.2.2.1 p hp; exact ⟨by omega,by omega,by omega,by omega,by rw [c,a],by omega⟩
theorem c_Setup (d:zac) (hd:DOk d):∃ (s:zak) (d':zac),cw zmk [.loc 1000 2 0 0] (mD d)=some (zi3 (s,d'))∧DSetup s∧DOk d':=by
 obtain ⟨ps,cs,d0,e0,o0,p0,q0,hd0⟩:=c_Papers d hd; obtain ⟨ms,d1,e1,o1,hd1⟩:=c_Markers d0 hd0; obtain ⟨xs,d2,e2,o2,hd2⟩:=c_Scripts d1 ps 4 hd1 o0 (by omega); obtain ⟨mr,d3,e3,o3,hd3⟩:=c_Monitor d2 hd2; have hxl:=o2.2.2; have hpl:=o0.2.1; have hxs:=scripts_ok (by omega) o0 o2; have loop:=zcn xs (fun i r=>∀ (sd:List GSeed) (d4:zac),(sd.length:Int)≤i→DOk d4→AscBy GSeed.Script sd→(∀ y∈sd,∀ x∈r,y.Script < x.Number)→(∀ y∈sd,∃ x∈xs,∃ k p,y.Script=x.Number∧zd3 ps x=some (k,p)∧zqt p y.Marks)→∃ (s:zak) (d':zac),zf3 ((ps,cs),d0) (ms,d1) (xs,d2) (mr,d3) (List.map zcd sd) d4 i=some (zi3 (s,d'))∧DSetup s∧DOk d') ?_ ?_ [] d3 (by simp) hd3 (fun j hj=>by simp at hj) (by simp) (by simp)
 · obtain ⟨s,d',e4,h⟩:=loop; refine ⟨s,d',zxE d ?_,h⟩; simp only [e0,e1,e2,e3,zsq,zrJ,zrL,zrK]; exact e4
 · intro sd d4 hl hd4 ha _ hs; refine ⟨⟨ms,xs,ps,cs,sd,mr⟩,d4,zkM _ _ _ _ _ _ _ ?_,?_,hd4⟩
   · simp (disch:=omega) only [zaq,zaW,zb9,zcb,zbz]; rw [zcG (by simp),zcG (by simp),zcG (by simp)]; rfl
   · refine ⟨⟨o1.2.2.1,hxs,by dsimp only; omega,p0,fun j p c hp hc=>(q0 j p c hp hc).1,fun x hx=>?_,by dsimp only; omega,ha,fun y hy=>?_,o3,fun c hc=>?_,fun m hm=>by have:=o1.2.2.2.1 m hm; omega⟩,o0,o1,o2⟩
     · obtain ⟨p,hp,hxp⟩:=o2.1 x hx; obtain ⟨k,hk⟩:=zuP o0 hp hxp; have hpk:=(zeG hk).1; have hlt:=(zbH.1 hpk).1; exact ⟨k,p,cs[k]'(show k < cs.length by omega),hk,zau _,hxp.2.2.2.2.2.2.2⟩
     · obtain ⟨x,hx,k,p,h1,h2,h3⟩:=hs y hy; refine ⟨k,p,?_,h3⟩; unfold zgX; dsimp only; rw [h1,zlA hxs.2.2 hx]; exact h2
     · obtain ⟨j,hj,rfl⟩:=zfB.1 hc; exact (q0 j _ _ (zau (by simp only at hj; omega)) (zau hj)).2
 · intro i hi r hr ih sd d4 hl hd4 ha hlt hs; obtain ⟨b,d5,e5,hd5⟩:=zmx d4 3 hd4 (by omega)
   have hrm:∀ x∈r,x∈xs∧xs[i].Number < x.Number:=by intro x hx; rw [← hr] at hx; obtain ⟨j,hj,rfl⟩:=zfB.1 hx; rw [List.getElem_drop]; exact ⟨zbt _,asc_lt hxs.2.2 i _ _ (by omega)⟩
   cases b with
   | false=>obtain ⟨s,d',e4,h⟩:=ih sd d5 (by omega) hd5 ha (fun y hy x hx=>hlt y hy x (by simp [hx])) hs; refine ⟨s,d',zkM _ _ _ _ _ _ _ ?_,h⟩; simp (disch:=omega) only [zaq,zaC,e5,zbR,zaB,w64_id,e4]
   | true =>
     obtain ⟨p,hp,hxp⟩:=o2.1 _ (zbt hi); obtain ⟨k,hk⟩:=zuP o0 hp hxp; obtain ⟨y,d6,e6,h1,h2,hd6⟩:=c_Seed d5 ps xs[i] k p hd5 (by omega) hk (o0.2.2.1 p hp).1
     obtain ⟨s,d',e4,h⟩:=ih (sd++[y]) d6 (by simp; omega) hd6 (asc_snoc ha (fun z hz=>by rw [h1]; exact hlt z hz _ (by simp)))
      (by
       intro z hz x hx; rcases zb3.1 hz with hz | hz
       · exact hlt z hz x (by simp [hx])
       · simp only [zcV] at hz; subst hz; rw [h1]
         exact (hrm x hx).2)
      (by
       intro z hz; rcases zb3.1 hz with hz | hz
       · exact hs z hz
       · simp only [zcV] at hz; subst hz
         exact ⟨_,zbt hi,k,p,h1,hk,h2⟩)
     refine ⟨s,d',zkM _ _ _ _ _ _ _ ?_,h⟩; simp (disch:=omega) only [zaq,zaC,e5,zbR,zaZ,zam,zbz,zb9,zbf,zeC,zau hi,zaS,e6,zuq,w64_id,zcS zcd,e4]
end Go.Proofs.YtlecnobdfhlmnaaGreat
namespace Go.Proofs.YtlecnobdfhlmnaaGreat
open Go.Ab
def Sat {β:Type} (Q:β→Prop) (o:Option β):Prop:=∃ y,o=some y∧Q y
theorem sat_of {β:Type} {Q:β→Prop} {a b:Option β} (h:∀ y,a=some y→b=some y) (ha:Sat Q a):Sat Q b:=by obtain ⟨y,e,hq⟩:=ha; exact ⟨y,h y e,hq⟩
theorem zuX {β:Type} {Q:β→Prop} {y:β} (h:Q y):Sat Q (some y):=⟨y,rfl,h⟩
theorem ofScript {s:zak} (hs:DSetup s) {x:zaE} (hx:x∈s.Scripts):∃ k p,zd3 s.Papers x=some (k,p)∧p∈s.Papers∧zmU 4 p x∧DPaper p:=by obtain ⟨p,hp,h⟩:=hs.scripts.1 x hx; obtain ⟨k,hk⟩:=zuP hs.papers hp h; exact ⟨k,p,hk,hp,h,(hs.papers.2.2.1 p hp).1⟩
theorem c_Mark (d:zac) (s:zak) (a b:Int) (hd:DOk d) (hs:DSetup s):∃ (e:zab) (d':zac),cw zm3 [.loc 1000 2 0 0,.agg (zaj s),I a,I b] (mD d)=some (zna (e,d'))∧e.Pages.length≤12∧DOk d':=by
 have hm:=hs.markers; have hsl:=hs.scripts.2.2; have hpl:=hs.papers.2.1; obtain ⟨n0,d0,e0,a0,b0,hd0⟩:=zcc d s.Markers.length hd (by have:=hm.2.1; omega); have hlt:n0.toNat < s.Markers.length:=by have:=hm.1; omega
 by_cases hz:s.Scripts.length=0
 · refine ⟨⟨⟨b,s.Markers[n0.toNat].ID,a⟩,0,0,0,0,0,[]⟩,d0,zm0 _ _ _ _ ?_,by simp,hd0⟩; simp (disch:=omega) only [zaq,e0,zaX,zam,zeB,zau hlt,zaS,hz,Int.ofNat_zero,Int.natCast_zero,beq_self_eq_true,zaZ,zb9,zcb,zbz]; rfl
 · obtain ⟨n1,d1,e1,a1,b1,hd1⟩:=zcc d0 s.Scripts.length hd0 (by omega); have hl1:n1.toNat < s.Scripts.length:=by omega
   obtain ⟨k,p,hk,hp,hx,hdp⟩:=ofScript hs (zbt hl1); have hpp:=hdp.1; have hpq:=hdp.2.1; have hpg:=hx.2.2.2.2.2.1; obtain ⟨n2,d2,e2,a2,b2,hd2⟩:=zcc d1 p.Parts.length hd1 (by omega); have hl2:n2.toNat < p.Parts.length:=by omega
   have hx2:=(hdp.2.2.1 _ (zbt hl2)).1.1; obtain ⟨n3,d3,e3,a3,b3,hd3⟩:=zcc d2 (p.Parts[n2.toNat].Max+2) hd2 (by omega); obtain ⟨v,d4,e4,hd4⟩:=zmx d3 12 hd3 (by omega); have hz':((s.Scripts.length:Int) == 0)=false:=by simp; intro h; exact hz (by simpa using h)
   cases v with
   | true=>refine ⟨⟨⟨b,s.Markers[n0.toNat].ID,a⟩,0,s.Scripts[n1.toNat].Number,n2,n3 - 1,0,[]⟩,d4,zm0 _ _ _ _ ?_,by simp,hd4⟩; simp (disch:=omega) only [zaq,e0,zaX,zam,zeB,zau hlt,zaS,hz',zaB,e1,zeC,zau hl1,zum s.Papers _ (show s.Papers.length≤1000000 by omega),hk,zde,zeV,zjG,e2,zdF,zau hl2,w64_id,e3,e4,zbR,zaZ]; exact ztN _ _ _ _ _ _ _ (by simp (disch:=omega) only [zb9,zcb,zbz,w64_id]; rfl)
   | false =>
     refine ⟨⟨⟨b,s.Markers[n0.toNat].ID,a⟩,0,s.Scripts[n1.toNat].Number,n2,n3 - 1,0,s.Scripts[n1.toNat].Pages⟩,d4,zm0 _ _ _ _ ?_,by dsimp only; omega,hd4⟩; simp (disch:=omega) only [zaq,e0,zaX,zam,zeB,zau hlt,zaS,hz',zaB,e1,zeC,zau hl1,zum s.Papers _ (show s.Papers.length≤1000000 by omega),hk,zde,zeV,zjG,e2,zdF,zau hl2,w64_id,e3,e4,zbR,zaB]
     exact zrR _ _ _ _ _ _ _ (by
      simp (disch:=omega) only [zb9,zaq,zcb,zbz,w64_id]; rw [zcG (by simp)]
      rfl)
set_option maxRecDepth 20000 in
theorem c_Events (d:zac) (s:zak) (n:Int) (hd:DOk d) (hs:DSetup s) (hn:0≤n∧n≤50):∃ (l:List zab) (d':zac),cw zlj [.loc 1000 2 0 0,.agg (zaj s),I n] (mD d)=some (zfh (l,d'))∧(l.length:Int)≤n∧(∀ e∈l,e.Pages.length≤12)∧DOk d':=by
 have hm:=hs.markers; have hm1:=hm.1; have hm2:=hm.2.1; have hsl:=hs.scripts.2.2
 let Q:AV×Mem→Prop:=fun y=>∃ (l:List zab) (d':zac),y=zfh (l,d')∧(l.length:Int)≤n∧(∀ e∈l,e.Pages.length≤12)∧DOk d'
 have loop:∀ (m:Nat) (i:Int) (out:List zab) (d:zac),i+m=n→0≤i→(out.length:Int)≤i→(∀ e∈out,e.Pages.length≤12)→DOk d→Sat Q (zcf s n (List.map zaa out) d i):=by
  intro m
  induction m with
  | zero=>intro i out d hi h0 hl hp hd; refine sat_of (fun y=>zn8 _ _ _ _ _) ?_; simp (disch:=omega) only [zaW,zbz]; exact zuX ⟨out,d,rfl,by omega,hp,hd⟩
  | succ m ih =>
    intro i out d hi h0 hl hp hd; have stay:∀ d',DOk d'→Sat Q (zcf s n (List.map zaa out) d' (i+1)):=fun d' hd'=>ih (i+1) out d' (by omega) (by omega) (by omega) hp hd'
    have more:∀ e d',e.Pages.length≤12→DOk d'→Sat Q (zcf s n (List.map zaa (out++[e])) d' (i+1)):=fun e d' he hd' =>
     ih (i+1) (out++[e]) d' (by omega) (by omega) (by simp; omega) (by
      intro x hx; rcases zb3.1 hx with hx | hx
      · exact hp x hx
      · simp only [zcV] at hx
        exact hx▸he) hd'
    obtain ⟨n0,d0,e0,a0,b0,hd0⟩:=zcc d 20 hd (by omega); obtain ⟨n1,d1,e1,a1,b1,hd1⟩:=zcc d0 14 hd0 (by omega); refine sat_of (fun y=>zn8 _ _ _ _ _) ?_; by_cases c0:n1=0
    · obtain ⟨n2,d2,e2,a2,b2,hd2⟩:=zcc d1 s.Markers.length hd1 (by omega); have hlt:n2.toNat < s.Markers.length:=by omega
      simp only [eq_self,zbz]; simp (disch:=omega) only [zaq,zaC,e0,zaX,e1,show (n1 == 0)=true by simpa using c0,zaZ,e2,zam,zeB,zau hlt,zaS,zbz,w64_id]; simp only [zcS zaa]; exact more _ _ (by simp) hd2
    · by_cases c1:n1=1
      · by_cases hz:0 < s.Scripts.length
        · obtain ⟨n2,d2,e2,a2,b2,hd2⟩:=zcc d1 s.Scripts.length hd1 (by omega); have hlt:n2.toNat < s.Scripts.length:=by omega
          obtain ⟨n3,d3,e3,a3,b3,hd3⟩:=zcc d2 3 hd2 (by omega); simp only [eq_self,zbz]; simp (disch:=omega) only [zaq,zaC,e0,zaX,e1,show (n1 == 0)=false by simpa using c0,show (n1 == 1)=true by simpa using c1,zaZ,zaB,e2,e3,zam,zeC,zau hlt,zaS,zbz,w64_id]; simp only [zcS zaa]; exact more _ _ (by simp) hd3
        · simp (disch:=omega) only [zaq,zaC,zaW,e0,zaX,e1,show (n1 == 0)=false by simpa using c0,show (n1 == 1)=true by simpa using c1,zaZ,zaB,w64_id]; exact stay _ hd1
      · by_cases c2:n1=2
        · by_cases hz:0 < out.length
          · obtain ⟨n2,d2,e2,a2,b2,hd2⟩:=zcc d1 out.length hd1 (by omega); have hlt:n2.toNat < out.length:=by omega
            simp only [eq_self,zbz]; simp (disch:=omega) only [zaq,zaC,e0,zaX,e1,show (n1 == 0)=false by simpa using c0,show (n1 == 1)=false by simpa using c1,show (n1 == 2)=true by simpa using c2,zaZ,zaB,e2,zam,zb9,zbW,zau hlt,zaS,zbz,w64_id]; simp only [zcS zaa]; exact more _ _ (hp _ (zbt hlt)) hd2
          · simp (disch:=omega) only [zaq,zaC,zaW,e0,zaX,e1,show (n1 == 0)=false by simpa using c0,show (n1 == 1)=false by simpa using c1,show (n1 == 2)=true by simpa using c2,zaZ,zaB,w64_id]; exact stay _ hd1
        · by_cases c3:n1=3
          · by_cases hz:0 < out.length
            · obtain ⟨n2,d2,e2,a2,b2,hd2⟩:=zcc d1 out.length hd1 (by omega); have hlt:n2.toNat < out.length:=by omega
              simp only [eq_self,zbz]; simp (disch:=omega) only [zaq,zaC,e0,zaX,e1,show (n1 == 0)=false by simpa using c0,show (n1 == 1)=false by simpa using c1,show (n1 == 2)=false by simpa using c2,show (n1 == 3)=true by simpa using c3,zaZ,zaB,e2,zam,zb9,zbW,zau hlt,zaS,zbz,w64_id (n:=i+1)]; simp only [zcS zaa]; exact more _ _ (show out[n2.toNat].Pages.length≤12 from hp _ (zbt hlt)) hd2
            · simp (disch:=omega) only [zaq,zaC,zaW,e0,zaX,e1,show (n1 == 0)=false by simpa using c0,show (n1 == 1)=false by simpa using c1,show (n1 == 2)=false by simpa using c2,show (n1 == 3)=true by simpa using c3,zaZ,zaB,w64_id]; exact stay _ hd1
          · obtain ⟨e,d2,e2,he,hd2⟩:=c_Mark d1 s i (w64 (w64 (5*i)+n0)) hd1 hs; simp only [eq_self,zbz]; simp (disch:=omega) only [zaq,zaC,e0,zaX,e1,show (n1 == 0)=false by simpa using c0,show (n1 == 1)=false by simpa using c1,show (n1 == 2)=false by simpa using c2,show (n1 == 3)=false by simpa using c3,zaB,e2,zuo,zam,zbz,w64_id (n:=i+1)]; simp only [zcS zaa]; exact more _ _ he hd2
 obtain ⟨y,e1,l,d',rfl,h⟩:=loop n.toNat 0 [] d (by omega) (by omega) (by simp) (by simp) hd; exact ⟨l,d',zwl _ _ _ e1,h⟩
def FullEv (n:Int) (e:zab):Prop:=e.Pages.length≤12∧e.Kind=0∧n≤e.Stamp.Time∧e.Stamp.Time≤n+120∧1000≤e.Stamp.Seq∧e.Marker=0
theorem c_FullK (d:zac) (s:zak) (n:Int) (hd:DOk d) (hs:DSetup s) (hn:0≤n∧n≤1000):∃ (l:List zab) (d':zac),cw zjK [.loc 1000 2 0 0,.agg (zaj s),I n] (mD d)=some (zfh (l,d'))∧l.length≤120∧(∀ e∈l,FullEv n e)∧DOk d':=by
 have hm2:=hs.markers.2.1; have hsl:=hs.scripts.2.2; have hpl:=hs.papers.2.1
 let Q:AV×Mem→Prop:=fun y=>∃ (l:List zab) (d':zac),y=zfh (l,d')∧l.length≤120∧(∀ e∈l,FullEv n e)∧DOk d'
 have loop:=zcn s.Scripts (fun i _=>∀ (out:List zab) (d:zac),(out.length:Int)≤15*i→(∀ e∈out,FullEv n e)→DOk d→Sat Q (zij s n (List.map zaa out) d i)) ?_ ?_ [] d (by simp) (by simp) hd
 · obtain ⟨y,e1,l,d',rfl,h⟩:=loop; exact ⟨l,d',zy1 _ _ _ e1,h⟩
 · intro out d hl hp hd; refine sat_of (fun y=>zpy _ _ _ _ _) ?_; simp (disch:=omega) only [zaq,zaW,zbz]; exact zuX ⟨out,d,rfl,by omega,hp,hd⟩
 · intro i hi r _ ih out d hl hp hd; obtain ⟨k,p,hk,hpm,hx,hdp⟩:=ofScript hs (zbt hi); have hpp:=hdp.1; have hpg:=hx.2.2.2.2.2.1; refine sat_of (fun y=>zpy _ _ _ _ _) ?_; simp (disch:=omega) only [zaq,zaC,zam,zbf,zeC,zau hi,zaS,zum s.Papers _ (show s.Papers.length≤1000000 by omega),hk,zde,zeV,zjG]; refine zcn s.Markers (fun j _=>∀ (out:List zab) (d:zac),(out.length:Int)≤15*i+3*j→(∀ e∈out,FullEv n e)→DOk d→Sat Q (zik s n i p (List.map zaa out) d j)) ?_ ?_ out d (by omega) hp hd
   · intro out d hl hp hd; refine sat_of (fun y=>zpz _ _ _ _ _ _ _) ?_; simp (disch:=omega) only [zaq,zaW,w64_id]; exact ih out d (by omega) hp hd
   · intro j hj r _ ih2 out d hl hp hd; refine sat_of (fun y=>zpz _ _ _ _ _ _ _) ?_; simp (disch:=omega) only [zaq,zaC]; refine zcn p.Parts (fun q _=>∀ (out:List zab) (d:zac),(out.length:Int)≤15*i+3*j+q→(∀ e∈out,FullEv n e)→DOk d→Sat Q (zfp s n i p j (List.map zaa out) d q)) ?_ ?_ out d (by omega) hp hd
     · intro out d hl hp hd; refine sat_of (fun y=>zpA _ _ _ _ _ _ _ _) ?_; simp (disch:=omega) only [zaq,zaW,w64_id]; exact ih2 out d (by omega) hp hd
     · intro q hq r _ ih3 out d hl hp hd; have hmx:=(hdp.2.2.1 _ (zbt hq)).1.1; refine sat_of (fun y=>zpA _ _ _ _ _ _ _ _) ?_; by_cases hkd:p.Parts[q].Kind=1
       · obtain ⟨n0,d0,e0,a0,b0,hd0⟩:=zcc d 4 hd (by omega); by_cases hz:0 < n0
         · obtain ⟨n1,d1,e1,a1,b1,hd1⟩:=zcc d0 (p.Parts[q].Max+1) hd0 (by omega); simp (disch:=omega) only [zaq,zaC,zam,zbf,zdF,zau hq,zaS,show (p.Parts[q].Kind == 1)=true by simpa using hkd,zaZ,e0,zaX,zeB,zau hj,zeC,zau hi,w64_id,e1,zbz,zcS zaa]; refine ih3 (out++[_]) d1 (by simp; omega) ?_ hd1; intro x hx'; rcases zb3.1 hx' with hx' | hx'
           · exact hp x hx'
           · simp only [zcV] at hx'; subst hx'; refine ⟨?_,rfl,?_,?_,?_,rfl⟩ <;> dsimp only <;> omega
         · simp (disch:=omega) only [zaq,zaC,zaW,zam,zbf,zdF,zau hq,zaS,show (p.Parts[q].Kind == 1)=true by simpa using hkd,zaZ,e0,zaX,w64_id]; exact ih3 out d0 (by omega) hp hd0
       · simp (disch:=omega) only [zaq,zaC,zaW,zam,zbf,zdF,zau hq,zaS,show (p.Parts[q].Kind == 1)=false by simpa using hkd,zaB,w64_id]; exact ih3 out d (by omega) hp hd
theorem c_Full (d:zac) (s:zak) (n:Int) (hd:DOk d) (hs:DSetup s) (hn:0≤n∧n≤1000:=by omega):∃ (l:List zab) (d':zac),cw zjK [.loc 1000 2 0 0,.agg (zaj s),I n] (mD d)=some (zfh (l,d'))∧l.length≤120∧(∀ e∈l,e.Pages.length≤12)∧DOk d':=by obtain ⟨l,d',h1,h2,h3,h4⟩:=c_FullK d s n hd hs hn; exact ⟨l,d',h1,h2,fun e he=>(h3 e he).1,h4⟩
end Go.Proofs.YtlecnobdfhlmnaaGreat
namespace Go.Proofs.YtlecnobdfhlmnaaGreat
open Go.Ab
theorem zEo (a b:List Int) (hl:a.length≤1000000):cw zmm [.sl 1 (List.map zaf a),.sl 1 (List.map zaf b)] []=some (zas (dec (a=b))):=by
 refine zxK a b ?_; by_cases h:a.length=b.length
 · simp only [zaq,h,bne_self_eq_false,zaB]; have H:=zlc a.length (fun j hj=>a[j]=b[j]'(by omega)) (fun i=>zhL a b i) zas ?_ ?_ ?_
   · rw [H,zje]; exact ⟨fun hh=>zlP h (fun i h1 h2=>hh i h1),fun hh=>by subst hh; intros; rfl⟩
   · exact zkO _ _ _ (by simp (disch:=omega) only [zaq,zaW]; rfl)
   · intro i hi hn; refine zkO _ _ _ ?_; simp (disch:=omega) only [zaq,zaC,zam,zbf,zbX,zau hi,zau (show i < b.length by omega),zaS,show (a[i] != b[i]'(by omega))=true by simpa using hn,zaZ]; rfl
   · intro i hi y hn hk; refine zkO _ _ _ ?_; simp (disch:=omega) only [zaq,zaC,zam,zbf,zbX,zau hi,zau (show i < b.length by omega),zaS,show (a[i] != b[i]'(by omega))=false by simpa using hn,zaB,w64_id,hk]
 · rw [zbY (fun hh=>h (by rw [hh]))]; simp only [zaq,show ((a.length:Int) != (b.length:Int))=true by simp only [bne_iff_ne,ne_eq]; omega,zaZ]; rfl
theorem zwc (a b:zab) (hl:a.Pages.length≤1000000):cw zrl [.agg (zaa a),.agg (zaa b)] []=some (zas (dec (a=b))):=by
 refine zDP a b ?_; obtain ⟨⟨a1,a2,a3⟩,a4,a5,a6,a7,a8,a9⟩:=a; obtain ⟨⟨b1,b2,b3⟩,b4,b5,b6,b7,b8,b9⟩:=b; simp only [zfi,beq_iff_eq,zcw,zqW,zEo _ _ hl,zaw]
 repeat' split
 all_goals first
  | (rw [zbY (by simp only [zab.mk.injEq,zbe.mk.injEq]; omega)]; rfl)
  | (refine congrArg some (congrArg zas (zje ?_):_=zas _)
     simp only [zab.mk.injEq,zbe.mk.injEq]
     simp [*])
end Go.Proofs.YtlecnobdfhlmnaaGreat
namespace Go.Proofs.YtlecnobdfhlmnaaGreat
open Go.Ab
end Go.Proofs.YtlecnobdfhlmnaaGreat
namespace Go.Proofs.YtlecnobdfhlmnaaGreat
open Go.Ab
theorem zmD {a b c:zbe} (h1:lessS b a=false) (h2:lessS c b=false):lessS c a=false:=by
 unfold lessS at *
 repeat' split at h1
 all_goals repeat' split at h2
 all_goals repeat' split
 all_goals simp only [decide_eq_false_iff_not] at *
 all_goals omega
theorem zx2 (a b:zbe):lessS a b=false∨lessS b a=false:=by
 unfold lessS
 repeat' split
 all_goals simp only [decide_eq_false_iff_not]
 all_goals omega
open Classical in
theorem zlu {κ ν:Type} [DecidableEq κ] {k:κ} {v:ν}:∀ {l:List (κ×ν)} {p:κ×ν},p∈mput k v l→p=(k,v)∨p∈l
 | [],p,h=>by simpa [mput] using h
 | q :: r,p,h=>by
   unfold mput at h; split at h
   · rcases zbV.1 h with h | h
     · exact Or.inl h
     · exact Or.inr (zlO _ h)
   · rcases zbV.1 h with h | h
     · exact Or.inr (by simp [h])
     · rcases zlu h with h | h
       · exact Or.inl h
       · exact Or.inr (zlO _ h)
theorem zlt {κ ν:Type} [DecidableEq κ] {k:κ}:∀ {l:List (κ×ν)} {v:ν},mfind k l=some v→(k,v)∈l
 | [],v,h=>by simp [mfind] at h
 | q :: r,v,h=>by
   unfold mfind at h; split at h
   · injection h with h; subst h; rename_i hk; subst hk; simp
   · exact zlO _ (zlt h)
end Go.Proofs.YtlecnobdfhlmnaaGreat
namespace Go.Proofs.YtlecnobdfhlmnaaGreat
open Go.Ab
def seedR:Option (Nat×GSeed)→List Int×Bool
 | some (_,y)=>(y.Marks,true)
 | none=>([],false)
def zEl:zbk:=⟨0,0,0,0,[]⟩
def markerR:Option (Nat×zbk)→zbk×Bool
 | some (_,y)=>(y,true)
 | none=>(zEl,false)
end Go.Proofs.YtlecnobdfhlmnaaGreat
namespace Go.Proofs.YtlecnobdfhlmnaaGreat
open Go.Ab
section
variable [Dr]
set_option maxRecDepth 10000
theorem c_isNaN (a:Int):cw zkQ [I a] []=some (zas false):=by refine zAk a ?_; simp; rfl
theorem c_cmp (a b:Int):cw zeg [I a,I b] []=some (zbw (cmpI a b)):=by
 refine zxC a b ?_; rw [c_isNaN a,zaw,c_isNaN b,zaw,zaB,zaB,zdR,zdR]; unfold cmpI; split
 · rfl
 · split <;> rfl
theorem c_Or (l:List Int) (hl:l.length≤1000000):cw znP [.sl 1 (List.map zaf l)] []=some (zbw (zkt l)):=by
 refine zDK l ?_; refine zsc l (fun i r=>zl0 l (i:Nat)=some (zbw (zkt r))) ?_ ?_
 · refine ztM l _ ?_; rw [zaq,zdR,iNQ]; rfl
 · intro i x r hi hx hr ih; refine ztM l _ ?_; rw [zaq,zdR,iPQ,cPQ,zbf,zbX,zau hi,zaS,hx,w6Q]; by_cases h0:x=0
   · subst h0; simpa [zkt] using ih
   · simp only [h0,zkt,if_false,show (x != 0)=true from by simpa using h0,zaZ]; rfl
theorem ztk (a b:zbe):cw zfE [.agg (zcv a),.agg (zcv b)] []=some (zbw (cmpS a b)):=by refine zAv a b ?_; rw [c_cmp _ _,za3,c_cmp _ _,za3,c_cmp _ _,za3,c_Or _ (by simp),za3]; rfl
theorem zyU (a b:zbe):decide (0 < cmpS a b)=lessS b a:=by
 unfold cmpS cmpI lessS; simp only [zkt]
 repeat' split
 all_goals first | omega | (simp_all; done) | (simp_all; omega) | (simp; omega)
theorem cmpS_neg (a b:zbe):decide (cmpS a b < 0)=lessS a b:=by
 unfold cmpS cmpI lessS; simp only [zkt]
 repeat' split
 all_goals first | omega | (simp_all; done) | (simp_all; omega) | (simp; omega)
end
theorem c_Equal (a b:List Int) (hl:a.length≤1000000):cw zgw [.sl 1 (List.map zaf a),.sl 1 (List.map zaf b)] []=some (zas (dec (a=b))):=by
 refine zsF a b ?_; by_cases h:a.length=b.length
 · simp only [zaq,h,bne_self_eq_false,zaB]; have H:=zlc a.length (fun j hj=>a[j]=b[j]'(by omega)) (fun i=>zfK a b i) zas ?_ ?_ ?_
   · rw [H,zje]; exact ⟨fun hh=>zlP h (fun i h1 h2=>hh i h1),fun hh=>by subst hh; intros; rfl⟩
   · exact zhF _ _ _ (by simp (disch:=omega) only [zaq,zaW]; rfl)
   · intro i hi hn; refine zhF _ _ _ ?_; simp (disch:=omega) only [zaq,zaC,zam,zbf,zbX,zau hi,zau (show i < b.length by omega),zaS,show (a[i] != b[i]'(by omega))=true by simpa using hn,zaZ]; rfl
   · intro i hi y hn hk; refine zhF _ _ _ ?_; simp (disch:=omega) only [zaq,zaC,zam,zbf,zbX,zau hi,zau (show i < b.length by omega),zaS,show (a[i] != b[i]'(by omega))=false by simpa using hn,zaB,w64_id,hk]
 · rw [zbY (fun hh=>h (by rw [hh]))]; simp only [zaq,show ((a.length:Int) != (b.length:Int))=true by simp only [bne_iff_ne,ne_eq]; omega,zaZ]; rfl
theorem zAg {p:Prop} [Decidable p]:dec p=decide p:=by
 by_cases h:p
 · rw [zbN h,decide_eq_true h]
 · rw [zbY h,decide_eq_false h]
theorem c_idx_t (l:List Int) (hl:l.length≤1000000):cw zcr [.sl 1 (List.map zaf l),.fn zc8 []] []=some (zbw (match fnd (fun m=>decide (200 < m)) 0 l with | some (i,_)=>(i:Int) | none=>-1)):=by
 refine zoP l ?_; refine ziM l (fun m=>decide (200 < m)) (fun i=>zen l i) (fun o=>zbw (match o with | some (i,_)=>(i:Int) | none=>-1)) ?_ ?_ ?_
 · exact zfO _ _ (by simp (disch:=omega) only [zaq,zaW]; rfl)
 · intro i hi h; refine zfO _ _ ?_; simp (disch:=omega) only [zaq,zaC,zam,zbf,zbX,zau hi,zaS]; rw [znK l[i] (y:=zas (decide (200 < l[i]))) rfl,zaw,h,zaZ]; rfl
 · intro i hi y h hk; refine zfO _ _ ?_; simp (disch:=omega) only [zaq,zaC,zam,zbf,zbX,zau hi,zaS]; rw [znK l[i] (y:=zas (decide (200 < l[i]))) rfl,zaw,h,zaB,w6Q]; exact hk
theorem fnd_any {α:Type} {p:α→Bool} {l:List α}:(fnd p 0 l).isSome=l.any p:=by
 cases h:fnd p 0 l with
 | none=>have:=zoW.1 h; symm; simp only [zqX,ztY]; intro x hx; simp [this x hx]
 | some q=>obtain ⟨i,x⟩:=q; obtain ⟨h1,h2,_⟩:=fnd_at h; simp only [zk8]; symm; exact ztZ.2 ⟨x,zb1 h1,h2⟩
theorem zDA (l:List Int) (hl:l.length≤1000000):cw zb7 [.sl 1 (List.map zaf l),.fn zc8 []] []=some (zas (l.any fun m=>decide (200 < m))):=by
 refine zny l ?_; rw [c_idx_t l hl,za3,← fnd_any]
 cases fnd (fun m=>decide (200 < m)) 0 l with
 | none=>rfl
 | some q=>simp; rfl
theorem zz9 (l:List Int) (hl:l.length≤1000000):cw zid [.sl 1 (List.map zaf l)] []=some (zas (greatB l)):=by
 refine zwr l ?_; unfold greatB; rw [zDA l hl,zaw,zaq]; by_cases h:24 < l.length
 · rw [zaC (by omega)]; simp [h]; rfl
 · rw [zaW (by omega)]; simp [h]; rfl
theorem zz7 (a b:Int) (ha:0≤a∧a≤1000000) (hb:0≤b∧b≤1000000):cw zic [I a,I b] []=some (zbw (distI a b)):=by refine zwq a b ?_; rw [w6Q,w6Q]; rfl
theorem posI_bd {a:Int} (h:a≤200):0≤posI a∧posI a≤200:=by unfold posI; split <;> omega
theorem c_Good (r:zbr) (hr:OkMon r) (a b:List Int) (ha:a.length≤1000000) (hb:b.length≤1000000):cw zoS [.agg (zbU r),.sl 1 (List.map zaf a),.sl 1 (List.map zaf b)] []=some (zas (goodS r a b)):=by
 refine zBA r a b ?_; rw [znG _ hr,za3,show ((0:Int) != 0)=false from rfl,zaB,zz9 a ha,zaw,zz9 b hb,zaw,zaq,zaq]; unfold goodS; by_cases hl:a.length=b.length
 case neg=>rw [show ((a.length:Int) != (b.length:Int))=true by simp only [bne_iff_ne,ne_eq]; omega,zaZ,show (a.length == b.length)=false by simpa using hl]; rfl
 rw [show ((a.length:Int) != (b.length:Int))=false by simp [hl],zaB,show (a.length == b.length)=true by simpa using hl]
 cases hga:greatB a with
 | true=>rfl
 | false =>
 cases hgb:greatB b with
 | true=>rfl
 | false =>
 rw [zaB,zaB]
 have small:∀ l:List Int,greatB l=false→l.length≤24∧∀ m∈l,m≤200:=fun l h=>by unfold greatB at h; simp only [Bool.or_eq_false_iff,decide_eq_false_iff_not,ztY,decide_eq_true_eq] at h; exact ⟨by omega,fun m hm=>by have:=h.2 m hm; omega⟩
 obtain ⟨sa1,sa2⟩:=small a hga; obtain ⟨sb1,sb2⟩:=small b hgb
 have key:∀ (n i:Nat) (x y:Int),i+n=a.length→0≤x∧x≤200*i→0≤y∧y≤200*i→zjT r a b x y i=some (zas (zuI r (a.drop i) (b.drop i) x y)):=by
  intro n
  induction n with
  | zero=>intro i x y hi hx hy; refine zrF _ _ _ _ _ _ ?_; rw [zaq,zaW (by omega),zz7 x y (by omega) (by omega),za3,zmW (by omega)]; rfl
  | succ n ih =>
    intro i x y hi hx hy; have h1:i < a.length:=by omega
    have h2:i < b.length:=by omega
    have p1:=posI_bd (sa2 _ (zbt h1)); have p2:=posI_bd (sb2 _ (zbt h2)); refine zrF _ _ _ _ _ _ ?_; rw [zhX h1,zhX h2]; simp (disch:=omega) only [zaq,zaC,zam,zbf,zbX,zau h1,zau h2,zaS]; rw [show (if (0:Int) > a[i] then 0 else a[i])=posI a[i] from rfl,show (if (0:Int) > b[i] then 0 else b[i])=posI b[i] from rfl,zz7 _ _ (by omega) (by omega),za3,zdR]; unfold zuI; split
    · rfl
    · rw [w6Q,w6Q,w6Q]; exact ih (i+1) _ _ (by omega) (by omega) (by omega)
 exact key a.length 0 0 0 (by omega) (by omega) (by omega)
theorem zBO (r:zbr) (l:List Bool) (hl:l.length≤1000000):cw ziZ [.agg (zbU r),.sl 1 (List.map nBool l)] []=some (zas (decide (r.Fails≤failsN l))):=by
 refine zxI r l ?_
 have key:∀ (n i:Nat) (x:Int),i+n=l.length→0≤x∧x≤i→zf5 r l x i=some (zas (decide (r.Fails≤x+failsN (l.drop i)))):=by
  intro n
  induction n with
  | zero=>intro i x hi hx; refine zos _ _ _ _ ?_; rw [zaq,zaW (by omega),zmW (by omega)]; rw [show x+failsN []=x by simp [failsN]]; rfl
  | succ n ih =>
    intro i x hi hx; have h1:i < l.length:=by omega
    refine zos _ _ _ _ ?_; rw [zhX h1]; simp (disch:=omega) only [zaq,zaC,zam,zbf,elemD_Bool,zau h1,zaS]
    cases hb:l[i] with
    | true=>rw [zb6,zaB,w6Q]; have:=ih (i+1) x (by omega) (by omega); rw [show ((i:Int)+1)=((i+1:Nat):Int) by omega,this,show failsN (true :: List.drop (i+1) l)=failsN (List.drop (i+1) l) by simp [failsN]]
    | false =>
      rw [zdE,zaZ,w6Q,w6Q]; have:=ih (i+1) (x+1) (by omega) (by omega); rw [show ((i:Int)+1)=((i+1:Nat):Int) by omega,this]
      have e:x+1+failsN (List.drop (i+1) l)=x+failsN (false :: List.drop (i+1) l):=by simp [failsN]; omega
      rw [e]
 have:=key l.length 0 0 (by omega) (by omega); simpa using this
theorem c_MValid (r:zbr) (hr:OkMon r) (w:zdQ) (hw:zsX r w):cw znU [.agg (zbU r),.agg (zkw w)] []=some (zas true):=by have h1:=hw.1; have h2:=hr.2.2.1; refine zAs r w ?_; rw [znG _ hr,za3,show ((0:Int) == 0)=true from rfl,zaZ,zaq,zaC (by omega),zBO r w.Last (by omega),zaw,← hw.2]; simp; rfl
theorem c_CloneB (hok:CallOK zP (single zb2 zOrc)) (l:List Bool) (hl:l.length≤1000000):cw zb2 [.sl 1 (List.map nBool l)] []=some (zhB l):=zft hok (by
 show (if (List.map nBool l).length≤100000000 then some (AV.new 1 zgr (List.map nBool l),([]:Mem)) else none)=_; rw [if_pos (by simp; omega)]
 rfl)
theorem c_CloneI (hok:CallOK zP (single zbT zOrc)) (l:List Int) (hl:l.length≤1000000):cw zbT [.sl 1 (List.map zaf l)] []=some (zh3 l):=zft hok (by
 show (if (List.map zaf l).length≤100000000 then some (AV.new 1 zbK (List.map zaf l),([]:Mem)) else none)=_; rw [if_pos (by simp; omega)]
 rfl)
theorem c_Step (hok:CallOK zP (single zb2 zOrc)) (r:zbr) (hr:OkMon r) (w:zdQ) (hw:zsX r w) (b:Bool):cw zoT [.agg (zbU r),.agg (zkw w),B b] []=some (zn4 (if w.Suspended then (⟨[],false⟩,8) else (stepW r w b,0))):=by
 have h1:=hw.1; have h2:=hr.2.2.1; refine zBB r w b ?_; rw [c_MValid r hr w hw,zaw,zb6,zaB]
 cases hs:w.Suspended with
 | true=>rfl
 | false =>
 have hlen:(List.map nBool w.Last++[[AV.v (Go.Value.bool b)]]).length=w.Last.length+1:=by simp
 rw [zaB,c_CloneB hok _ (by omega),zoJ,zam rfl,zam (by simp only [zaq]; omega),zam rfl,hlen]
 have fin:∀ x2 x3:Nat,x2+x3=w.Last.length+1→(x3:Int)≤r.Window→(w.Last++[b]).drop x2=lastW r w b→zjU r w b w.Last x2 x3=some (zn4 (stepW r w b,0)):=by
  intro x2 x3 h3 h4 h5
  have e:List.take x3 (List.drop x2 (List.map nBool w.Last++[nBool b]))=List.map nBool (lastW r w b):=by rw [zcS nBool,← List.map_drop,h5,zcG]; rw [← h5]; simp; omega
  have hle:(lastW r w b).length≤1000000:=by rw [← h5]; simp; omega
  refine zrG _ _ _ _ _ _ ?_; rw [zaW (by omega),zam (by rw [hlen]; omega),e,zBO r _ hle,zaw,zam (by rw [hlen]; omega),show List.take x3 (List.drop x2 (List.map nBool w.Last++[[B b]]))=List.map nBool (lastW r w b) from e]; rfl
 by_cases hc:r.Window < (w.Last.length:Int)+1
 · refine zrG _ _ _ _ _ _ ?_; rw [zaC (by omega),cPQ,cPQ,cPQ]; refine fin _ _ (by omega) (by omega) ?_; unfold lastW; rw [if_pos (by simp; omega)]; rfl
 · refine fin 0 _ (by omega) (by omega) ?_; unfold lastW; rw [if_neg (by simp; omega)]; rfl
theorem zsp (x:GPart) (v:Int):cw zif [.agg (zaQ x),I v] []=some (zas (permB x v)):=by
 refine zwt x v ?_; unfold permB; simp only [zfi,decide_eq_true_eq,beq_iff_eq]; by_cases h1:v=-1
 · rw [if_pos h1,if_pos h1]; rfl
 rw [if_neg h1,if_neg h1]; by_cases h2:x.Kind=2
 · rw [if_pos h2,if_pos h2]; by_cases h3:v=0
   · rw [if_pos h3,h3]; rfl
   · rw [if_neg h3,show (v == 0)=false by simpa using h3,zs9]; rfl
 rw [if_neg h2,if_neg h2]; split
 · rename_i h; rw [show decide (0≤v∧v≤x.Max)=decide (v≤x.Max) by simp [h]]; rfl
 · rename_i h; rw [show decide (0≤v∧v≤x.Max)=false by simp [h]]; rfl
theorem zEn (p:zaJ) (c:zbp) (j:Nat) (x:GPart) (v:Int) (hs:Short c) (hok:zfc p c) (hx:p.Parts[j]?=some x):cw zlo [.agg (zaT p),.agg (zbJ c),I j,I v] []=some (zas (permB x v)):=by obtain ⟨hj,hx⟩:=zbH.1 hx; refine zws p c j v ?_; simp (disch:=omega) only [zgd p c hs,zaw,zbN hok,zaZ,zaq,zaC,zam,zbf,zdF,zau hj,zaS,hx,zsp,zaw]; rfl
theorem c_mayMark (m:zbk) (x:zaE) (hl:m.Papers.length≤1000000):cw zm6 [.agg (zbh m),.agg (za0 x)] []=some (zas (mayB m x)):=by
 refine zy6 m x ?_; unfold mayB; rw [zz5 _ _ hl,zaw]
 cases h:(m.Centre != x.Centre) with
 | true=>rw [zaZ,zqW,zAg,List.elem_eq_contains.symm,List.elem_eq_mem]; rfl
 | false=>rw [zaB,zt0]; rfl
theorem c_Find (hok:CallOK zP (single zbT zOrc)) (l:List zbk) (n:Int) (hl:l.length≤1000000) (hm:∀ m∈l,m.Papers.length≤1000000):cw zpN [.sl 5 (List.map zbh l),I n] []=some (zn3 (markerR (zrs l n))):=by
 refine zCQ l n ?_; refine ziM l (fun y=>y.ID == n) (fun i=>zkU l n i) (fun o=>zn3 (markerR o)) ?_ ?_ ?_
 · exact zoa _ _ _ (by simp (disch:=omega) only [zaq,zaW]; rfl)
 · intro i hi h; refine zoa _ _ _ ?_; simp (disch:=omega) only [zaq,zaC,zam,zbf,zeB,zau hi,zaS,h,zaZ]; rw [c_CloneI hok _ (hm _ (zbt hi)),zkB,zcG (by simp)]; rfl
 · intro i hi y h hk; refine zoa _ _ _ ?_; simp (disch:=omega) only [zaq,zaC,zam,zbf,zeB,zau hi,zaS,h,zaB,w64_id,hk]
theorem c_Eligible (hok:CallOK zP (single zbT zOrc)) (l:List zbk) (n:Int) (x:zaE) (hl:l.length≤1000000) (hm:∀ m∈l,m.Papers.length≤1000000):cw zml [.sl 5 (List.map zbh l),I n,.agg (za0 x)] []=some (zas (eligB l n x)):=by
 refine zxF l n x ?_; rw [c_Find hok l n hl hm,zxy]; unfold eligB
 cases h:zrs l n with
 | none=>rfl
 | some q=>obtain ⟨k,m⟩:=q; have hmem:=zb1 (fnd_at h).1; simp only [markerR,zaZ,c_mayMark m x (hm m hmem),zaw]; rfl
end Go.Proofs.YtlecnobdfhlmnaaGreat
namespace Go.Proofs.YtlecnobdfhlmnaaGreat
open Go.Ab
set_option maxRecDepth 100000
def cells (x:Nat→Option Addr):List AV:=(List.range 100).map fun i=>.v (.pointer (x i))
theorem w0 (s:zak) (ev:List zab):tReg zaN zT 0 ⟨[(0,AV.agg [AV.sl 5 (List.map zbh s.Markers),AV.sl 7 (List.map za0 s.Scripts),AV.sl 3 (List.map zaT s.Papers),AV.sl 2 (List.map zbJ s.Schemes),AV.sl 2 (List.map zcd s.Seeds),I s.Monitor.Part,I s.Monitor.Total,I s.Monitor.Window,I s.Monitor.Fails]),(1,AV.sl 9 (List.map zaa ev))],[]⟩=(some ⟨[(1,AV.sl 9 (List.map zaa ev)),(2,AV.loc 2 9 0 0)],[(2,⟨9,zan,[zaj s],true⟩)]⟩):=by kernel_rfl
theorem w1 (s:zak) (ev:List zab):tReg zaN zT 1 ⟨[(1,AV.sl 9 (List.map zaa ev)),(2,AV.loc 2 9 0 0)],[(2,⟨9,zan,[zaj s],true⟩)]⟩=(some ⟨[(1,AV.sl 9 (List.map zaa ev)),(2,AV.loc 2 9 0 0),(6,AV.loc 18 100 0 0)],[(2,⟨9,zan,[zaj s],true⟩),(18,⟨100,zaI,[cells fun _=>none],true⟩)]⟩):=by kernel_rfl
theorem w2 (s:zak) (ev:List zab) (x:Nat→Option Addr):tReg zaN zT 2 ⟨[(1,AV.sl 9 (List.map zaa ev)),(2,AV.loc 2 9 0 0),(6,AV.loc 18 100 0 0)],[(2,⟨9,zan,[zaj s],true⟩),(18,⟨100,zaI,[cells x],true⟩)]⟩=(some ⟨[(1,AV.sl 9 (List.map zaa ev)),(2,AV.loc 2 9 0 0),(6,AV.loc 18 100 0 0),(20,AV.sl 5 (List.map zbh s.Markers)),(21,I ((↑(List.map zbh s.Markers).length:Int))),(22,I 0)],[(2,⟨9,zan,[zaj s],true⟩),(18,⟨100,zaI,[cells x],true⟩)]⟩):=by kernel_rfl
theorem w3 (s:zak) (ev:List zab) (x:Nat→Option Addr) (n:Int) (i:Int):tReg zaN zT 3 ⟨[(1,AV.sl 9 (List.map zaa ev)),(2,AV.loc 2 9 0 0),(6,AV.loc 18 100 0 0),(20,AV.sl 5 (List.map zbh s.Markers)),(21,I n),(22,I i)],[(2,⟨9,zan,[zaj s],true⟩),(18,⟨100,zaI,[cells x],true⟩)]⟩=(some ⟨[(1,AV.sl 9 (List.map zaa ev)),(2,AV.loc 2 9 0 0),(6,AV.loc 18 100 0 0),(20,AV.sl 5 (List.map zbh s.Markers)),(21,I n),(22,I i),(23,B (decide (i < n)))],[(2,⟨9,zan,[zaj s],true⟩),(18,⟨100,zaI,[cells x],true⟩)]⟩):=by kernel_rfl
theorem w4 (s:zak) (ev:List zab) (x:Nat→Option Addr) (n:Int) (i:Int):tReg zaN zT 4 ⟨[(1,AV.sl 9 (List.map zaa ev)),(2,AV.loc 2 9 0 0),(6,AV.loc 18 100 0 0),(20,AV.sl 5 (List.map zbh s.Markers)),(21,I n),(22,I i)],[(2,⟨9,zan,[zaj s],true⟩),(18,⟨100,zaI,[cells x],true⟩)]⟩=(chk ((0:Int)≤i)<|
 elemD zc7 (List.map zbh s.Markers) i.toNat fun (c0:zbk) =>
 some ⟨[(1,AV.sl 9 (List.map zaa ev)),(2,AV.loc 2 9 0 0),(6,AV.loc 18 100 0 0),(8,AV.loc 8 5 0 0),(20,AV.sl 5 (List.map zbh s.Markers)),(21,I n),(22,I i)],[(2,⟨9,zan,[zaj s],true⟩),(8,⟨5,zea,[zbh c0],true⟩),(18,⟨100,zaI,[cells x],true⟩)]⟩):=by kernel_rfl
theorem w6 (s:zak) (ev:List zab) (x:Nat→Option Addr) (n:Int) (i:Int):tReg zaN zT 6 ⟨[(1,AV.sl 9 (List.map zaa ev)),(2,AV.loc 2 9 0 0),(6,AV.loc 18 100 0 0),(20,AV.sl 5 (List.map zbh s.Markers)),(21,I n),(22,I i)],[(2,⟨9,zan,[zaj s],true⟩),(18,⟨100,zaI,[cells x],true⟩)]⟩=(some ⟨[(1,AV.sl 9 (List.map zaa ev)),(2,AV.loc 2 9 0 0),(6,AV.loc 18 100 0 0),(20,AV.sl 5 (List.map zbh s.Markers)),(21,I n),(22,I (w64 (i+1)))],[(2,⟨9,zan,[zaj s],true⟩),(18,⟨100,zaI,[cells x],true⟩)]⟩):=by kernel_rfl
theorem w7 (s:zak) (ev:List zab) (xs:List (List AV)):tReg zaN zT 7 ⟨[(1,AV.sl 9 (List.map zaa ev)),(2,AV.loc 2 9 0 0),(6,AV.loc 18 1 0 0)],[(2,⟨9,zan,[zaj s],true⟩),(18,⟨1,zaI,xs,false⟩)]⟩=(some ⟨[(1,AV.sl 9 (List.map zaa ev)),(2,AV.loc 2 9 0 0),(6,AV.loc 18 1 0 0),(9,AV.map 37)],[(2,⟨9,zan,[zaj s],true⟩),(18,⟨1,zaI,xs,false⟩),(37,⟨0,zav,[],false⟩)]⟩):=by kernel_rfl
theorem w8 (s:zak) (ev:List zab) (xs:List (List AV)) (R:List (List AV)):tReg zaN zT 8 ⟨[(1,AV.sl 9 (List.map zaa ev)),(2,AV.loc 2 9 0 0),(6,AV.loc 18 1 0 0),(9,AV.map 37)],[(2,⟨9,zan,[zaj s],true⟩),(18,⟨1,zaI,xs,false⟩),(37,⟨0,zav,R,false⟩)]⟩=(some ⟨[(2,AV.loc 2 9 0 0),(6,AV.loc 18 1 0 0),(9,AV.map 37),(38,AV.sl 9 (List.map zaa ev)),(39,I ((↑(List.map zaa ev).length:Int))),(40,I 0)],[(2,⟨9,zan,[zaj s],true⟩),(18,⟨1,zaI,xs,false⟩),(37,⟨0,zav,R,false⟩)]⟩):=by kernel_rfl
theorem w9 (s:zak) (ev:List zab) (xs:List (List AV)) (R:List (List AV)) (n:Int) (i:Int):tReg zaN zT 9 ⟨[(2,AV.loc 2 9 0 0),(6,AV.loc 18 1 0 0),(9,AV.map 37),(38,AV.sl 9 (List.map zaa ev)),(39,I n),(40,I i)],[(2,⟨9,zan,[zaj s],true⟩),(18,⟨1,zaI,xs,false⟩),(37,⟨0,zav,R,false⟩)]⟩=(some ⟨[(2,AV.loc 2 9 0 0),(6,AV.loc 18 1 0 0),(9,AV.map 37),(38,AV.sl 9 (List.map zaa ev)),(39,I n),(40,I i),(41,B (decide (i < n)))],[(2,⟨9,zan,[zaj s],true⟩),(18,⟨1,zaI,xs,false⟩),(37,⟨0,zav,R,false⟩)]⟩):=by kernel_rfl
theorem w10 (s:zak) (ev:List zab) (xs:List (List AV)) (R:List (List AV)) (n:Int) (i:Int):tReg zaN zT 10 ⟨[(2,AV.loc 2 9 0 0),(6,AV.loc 18 1 0 0),(9,AV.map 37),(38,AV.sl 9 (List.map zaa ev)),(39,I n),(40,I i)],[(2,⟨9,zan,[zaj s],true⟩),(18,⟨1,zaI,xs,false⟩),(37,⟨0,zav,R,false⟩)]⟩=(chk ((0:Int)≤i)<|
 elemD zaV (List.map zaa ev) i.toNat fun (c0:zab) =>
 some ⟨[(2,AV.loc 2 9 0 0),(6,AV.loc 18 1 0 0),(9,AV.map 37),(11,AV.loc 11 9 0 0),(38,AV.sl 9 (List.map zaa ev)),(39,I n),(40,I i)],[(2,⟨9,zan,[zaj s],true⟩),(11,⟨9,zah,[zaa c0],true⟩),(18,⟨1,zaI,xs,false⟩),(37,⟨0,zav,R,false⟩)]⟩):=by kernel_rfl
theorem w11 (s:zak) (ev:List zab) (xs:List (List AV)) (R:List (List AV)) (n:Int) (i:Int) (e:zab):tReg zaN zT 11 ⟨[(2,AV.loc 2 9 0 0),(6,AV.loc 18 1 0 0),(9,AV.map 37),(11,AV.loc 11 9 0 0),(38,AV.sl 9 (List.map zaa ev)),(39,I n),(40,I i)],[(2,⟨9,zan,[zaj s],true⟩),(11,⟨9,zah,[zaa e],true⟩),(18,⟨1,zaI,xs,false⟩),(37,⟨0,zav,R,false⟩)]⟩=(some ⟨[(2,AV.loc 2 9 0 0),(6,AV.loc 18 1 0 0),(9,AV.map 37),(11,AV.loc 11 9 0 0),(38,AV.sl 9 (List.map zaa ev)),(39,I n),(40,I i),(45,I e.Kind)],[(2,⟨9,zan,[zaj s],true⟩),(11,⟨9,zah,[zaa e],true⟩),(18,⟨1,zaI,xs,false⟩),(37,⟨0,zav,R,false⟩)]⟩):=by kernel_rfl
theorem w12 (s:zak) (ev:List zab) (xs:List (List AV)) (R:List (List AV)) (n:Int) (i:Int) (e:zab):tReg zaN zT 12 ⟨[(2,AV.loc 2 9 0 0),(6,AV.loc 18 1 0 0),(9,AV.map 37),(11,AV.loc 11 9 0 0),(38,AV.sl 9 (List.map zaa ev)),(39,I n),(40,I i),(45,I e.Kind)],[(2,⟨9,zan,[zaj s],true⟩),(11,⟨9,zah,[zaa e],true⟩),(18,⟨1,zaI,xs,false⟩),(37,⟨0,zav,R,false⟩)]⟩=(some ⟨[(2,AV.loc 2 9 0 0),(6,AV.loc 18 1 0 0),(9,AV.map 37),(11,AV.loc 11 9 0 0),(38,AV.sl 9 (List.map zaa ev)),(39,I n),(40,I i),(45,I e.Kind),(46,B (e.Kind == 1))],[(2,⟨9,zan,[zaj s],true⟩),(11,⟨9,zah,[zaa e],true⟩),(18,⟨1,zaI,xs,false⟩),(37,⟨0,zav,R,false⟩)]⟩):=by kernel_rfl
theorem w13 (s:zak) (ev:List zab) (xs:List (List AV)) (R:List (List AV)) (n:Int) (i:Int) (e:zab):tReg zaN zT 13 ⟨[(2,AV.loc 2 9 0 0),(6,AV.loc 18 1 0 0),(9,AV.map 37),(11,AV.loc 11 9 0 0),(38,AV.sl 9 (List.map zaa ev)),(39,I n),(40,I i)],[(2,⟨9,zan,[zaj s],true⟩),(11,⟨9,zah,[zaa e],true⟩),(18,⟨1,zaI,xs,false⟩),(37,⟨0,zav,R,false⟩)]⟩=(chk ((0:Int)≤e.Marker)<|
 chk ((e.Marker:Int) < (↑100:Int))<|
 elemP zh0 xs (0+e.Marker.toNat) (some ⟨[(2,AV.loc 2 9 0 0),(6,AV.loc 18 1 0 0),(9,AV.map 37),(11,AV.loc 11 9 0 0),(12,AV.v (.pointer none)),(38,AV.sl 9 (List.map zaa ev)),(39,I n),(40,I i)],[(2,⟨9,zan,[zaj s],true⟩),(11,⟨9,zah,[zaa e],true⟩),(18,⟨1,zaI,xs,false⟩),(37,⟨0,zav,R,false⟩)]⟩)
 (fun (p0:Addr)=>some ⟨[(2,AV.loc 2 9 0 0),(6,AV.loc 18 1 0 0),(9,AV.map 37),(11,AV.loc 11 9 0 0),(12,AV.v (.pointer (some p0))),(38,AV.sl 9 (List.map zaa ev)),(39,I n),(40,I i)],[(2,⟨9,zan,[zaj s],true⟩),(11,⟨9,zah,[zaa e],true⟩),(18,⟨1,zaI,xs,false⟩),(37,⟨0,zav,R,false⟩)]⟩)
 fun (c1:zat) =>
 some ⟨[(2,AV.loc 2 9 0 0),(6,AV.loc 18 1 0 0),(9,AV.map 37),(11,AV.loc 11 9 0 0),(12,AV.fp [I c1.level,AV.sl 10 (List.map zar c1.marks),I c1.period,I c1.started.Time,I c1.started.Source,I c1.started.Seq,AV.mp (List.map zaz c1.noted),AV.sl 1 (List.map nBool c1.watch.Last),B c1.watch.Suspended,I c1.good.Time,I c1.good.Source,I c1.good.Seq,B c1.some,AV.sl 12 (List.map zao c1.suspensions)]),(38,AV.sl 9 (List.map zaa ev)),(39,I n),(40,I i)],[(2,⟨9,zan,[zaj s],true⟩),(11,⟨9,zah,[zaa e],true⟩),(18,⟨1,zaI,xs,false⟩),(37,⟨0,zav,R,false⟩)]⟩):=by kernel_rfl
theorem w14n (s:zak) (ev:List zab) (xs:List (List AV)) (R:List (List AV)) (n:Int) (i:Int) (e:zab):tReg zaN zT 14 ⟨[(2,AV.loc 2 9 0 0),(6,AV.loc 18 1 0 0),(9,AV.map 37),(11,AV.loc 11 9 0 0),(12,AV.v (.pointer none)),(38,AV.sl 9 (List.map zaa ev)),(39,I n),(40,I i)],[(2,⟨9,zan,[zaj s],true⟩),(11,⟨9,zah,[zaa e],true⟩),(18,⟨1,zaI,xs,false⟩),(37,⟨0,zav,R,false⟩)]⟩=(some ⟨[(2,AV.loc 2 9 0 0),(6,AV.loc 18 1 0 0),(9,AV.map 37),(11,AV.loc 11 9 0 0),(12,AV.v (.pointer none)),(38,AV.sl 9 (List.map zaa ev)),(39,I n),(40,I i),(55,B (!true))],[(2,⟨9,zan,[zaj s],true⟩),(11,⟨9,zah,[zaa e],true⟩),(18,⟨1,zaI,xs,false⟩),(37,⟨0,zav,R,false⟩)]⟩):=by kernel_rfl
theorem w14p (s:zak) (ev:List zab) (xs:List (List AV)) (R:List (List AV)) (n:Int) (i:Int) (e:zab) (p:Addr):tReg zaN zT 14 ⟨[(2,AV.loc 2 9 0 0),(6,AV.loc 18 1 0 0),(9,AV.map 37),(11,AV.loc 11 9 0 0),(12,AV.v (.pointer (some p))),(38,AV.sl 9 (List.map zaa ev)),(39,I n),(40,I i)],[(2,⟨9,zan,[zaj s],true⟩),(11,⟨9,zah,[zaa e],true⟩),(18,⟨1,zaI,xs,false⟩),(37,⟨0,zav,R,false⟩)]⟩=(some ⟨[(2,AV.loc 2 9 0 0),(6,AV.loc 18 1 0 0),(9,AV.map 37),(11,AV.loc 11 9 0 0),(12,AV.v (.pointer (some p))),(38,AV.sl 9 (List.map zaa ev)),(39,I n),(40,I i),(55,B (!false))],[(2,⟨9,zan,[zaj s],true⟩),(11,⟨9,zah,[zaa e],true⟩),(18,⟨1,zaI,xs,false⟩),(37,⟨0,zav,R,false⟩)]⟩):=by kernel_rfl
theorem w15 (s:zak) (ev:List zab) (xs:List (List AV)) (R:List (List AV)) (n:Int) (i:Int) (e:zab) (p:Addr) (d:zat):tReg0 zaN zT 15 ⟨[(12,AV.loc 1300 14 0 0),(2,AV.loc 2 9 0 0),(6,AV.loc 18 1 0 0),(9,AV.map 37),(11,AV.loc 11 9 0 0),(12,AV.v (.pointer (some p))),(38,AV.sl 9 (List.map zaa ev)),(39,I n),(40,I i)],[(1300,⟨14,zbu,[[I d.level,AV.row 301 10 0 (List.length (List.map zar d.marks)),I d.period,I d.started.Time,I d.started.Source,I d.started.Seq,AV.map 302,AV.sl 1 (List.map nBool d.watch.Last),B d.watch.Suspended,I d.good.Time,I d.good.Source,I d.good.Seq,B d.some,AV.row 303 12 0 (List.length (List.map zao d.suspensions))]],true⟩),(301,⟨10,zbv,List.map zar d.marks,false⟩),(302,⟨0,za2,List.map zaz d.noted,false⟩),(303,⟨12,zay,List.map zao d.suspensions,false⟩),(2,⟨9,zan,[zaj s],true⟩),(11,⟨9,zah,[zaa e],true⟩),(18,⟨1,zaI,xs,false⟩),(37,⟨0,zav,R,false⟩)]⟩=(chk ((List.map zar d.marks).length=(List.map zar d.marks).length)<|
 chk ((List.map zao d.suspensions).length=(List.map zao d.suspensions).length)<|
 callD zcX (cw zfD [AV.loc 1000 14 0 0,AV.agg (zcv e.Stamp)] [(1000,⟨14,zbu,[[I d.level,AV.row 900 10 0 ((List.map zar d.marks).length),I d.period,I d.started.Time,I d.started.Source,I d.started.Seq,AV.map 901,AV.sl 1 (List.map nBool d.watch.Last),B d.watch.Suspended,I d.good.Time,I d.good.Source,I d.good.Seq,B d.some,AV.row 902 12 0 ((List.map zao d.suspensions).length)]],true⟩),(900,⟨10,zbv,List.map zar d.marks,false⟩),(901,⟨0,za2,List.map zaz d.noted,false⟩),(902,⟨12,zay,List.map zao d.suspensions,false⟩)]) fun (r0:zat) =>
 some ⟨[(59,AV.tup []),(58,AV.agg [I e.Stamp.Time,I e.Stamp.Source,I e.Stamp.Seq]),(57,AV.loc 11 9 0 (0+0)),(56,AV.loc 1300 14 0 0),(12,AV.loc 1300 14 0 0),(2,AV.loc 2 9 0 0),(6,AV.loc 18 1 0 0),(9,AV.map 37),(11,AV.loc 11 9 0 0),(12,AV.v (.pointer (some p))),(38,AV.sl 9 (List.map zaa ev)),(39,I n),(40,I i)],[(301,⟨10,zbv,List.map zar r0.marks,false⟩),(302,⟨0,za2,List.map zaz r0.noted,false⟩),(303,⟨12,zay,List.map zao r0.suspensions,false⟩),(1300,⟨14,zbu,[[I r0.level,AV.row 301 10 0 (List.length (List.map zar r0.marks)),I r0.period,I r0.started.Time,I r0.started.Source,I r0.started.Seq,AV.map 302,AV.sl 1 (List.map nBool r0.watch.Last),B r0.watch.Suspended,I r0.good.Time,I r0.good.Source,I r0.good.Seq,B r0.some,AV.row 303 12 0 (List.length (List.map zao r0.suspensions))]],true⟩),(2,⟨9,zan,[zaj s],true⟩),(11,⟨9,zah,[zaa e],true⟩),(18,⟨1,zaI,xs,false⟩),(37,⟨0,zav,R,false⟩)]⟩):=by kernel_rfl
theorem w16 (s:zak) (ev:List zab) (xs:List (List AV)) (R:List (List AV)) (n:Int) (i:Int) (e:zab):tReg zaN zT 16 ⟨[(2,AV.loc 2 9 0 0),(6,AV.loc 18 1 0 0),(9,AV.map 37),(11,AV.loc 11 9 0 0),(38,AV.sl 9 (List.map zaa ev)),(39,I n),(40,I i),(45,I e.Kind)],[(2,⟨9,zan,[zaj s],true⟩),(11,⟨9,zah,[zaa e],true⟩),(18,⟨1,zaI,xs,false⟩),(37,⟨0,zav,R,false⟩)]⟩=(some ⟨[(2,AV.loc 2 9 0 0),(6,AV.loc 18 1 0 0),(9,AV.map 37),(11,AV.loc 11 9 0 0),(38,AV.sl 9 (List.map zaa ev)),(39,I n),(40,I i),(45,I e.Kind),(60,B (e.Kind == 2))],[(2,⟨9,zan,[zaj s],true⟩),(11,⟨9,zah,[zaa e],true⟩),(18,⟨1,zaI,xs,false⟩),(37,⟨0,zav,R,false⟩)]⟩):=by kernel_rfl
theorem w17 (s:zak) (ev:List zab) (xs:List (List AV)) (R:List (zaL×zbe)) (n:Int) (i:Int) (e:zab):tReg zaN zT 17 ⟨[(2,AV.loc 2 9 0 0),(6,AV.loc 18 1 0 0),(9,AV.map 37),(11,AV.loc 11 9 0 0),(38,AV.sl 9 (List.map zaa ev)),(39,I n),(40,I i)],[(2,⟨9,zan,[zaj s],true⟩),(11,⟨9,zah,[zaa e],true⟩),(18,⟨1,zaI,xs,false⟩),(37,⟨0,zav,List.map zax R,false⟩)]⟩=(msetD zP 181 60 (AV.agg (zbI (⟨e.Script,e.Part⟩))) (AV.agg (zcv e.Stamp)) (List.map zax R) fun (m0:List (List AV))=>some ⟨[(2,AV.loc 2 9 0 0),(6,AV.loc 18 1 0 0),(9,AV.map 37),(38,AV.sl 9 (List.map zaa ev)),(39,I n),(40,I i)],[(2,⟨9,zan,[zaj s],true⟩),(18,⟨1,zaI,xs,false⟩),(37,⟨0,zav,m0,false⟩)]⟩):=by kernel_rfl
theorem w18 (s:zak) (ev:List zab) (xs:List (List AV)) (R:List (List AV)) (n:Int) (i:Int) (e:zab):tReg zaN zT 18 ⟨[(2,AV.loc 2 9 0 0),(6,AV.loc 18 1 0 0),(9,AV.map 37),(11,AV.loc 11 9 0 0),(38,AV.sl 9 (List.map zaa ev)),(39,I n),(40,I i),(45,I e.Kind)],[(2,⟨9,zan,[zaj s],true⟩),(11,⟨9,zah,[zaa e],true⟩),(18,⟨1,zaI,xs,false⟩),(37,⟨0,zav,R,false⟩)]⟩=(some ⟨[(2,AV.loc 2 9 0 0),(6,AV.loc 18 1 0 0),(9,AV.map 37),(11,AV.loc 11 9 0 0),(38,AV.sl 9 (List.map zaa ev)),(39,I n),(40,I i),(70,B (e.Kind == 0))],[(2,⟨9,zan,[zaj s],true⟩),(11,⟨9,zah,[zaa e],true⟩),(18,⟨1,zaI,xs,false⟩),(37,⟨0,zav,R,false⟩)]⟩):=by kernel_rfl
theorem w19 (s:zak) (ev:List zab) (xs:List (List AV)) (R:List (List AV)) (n:Int) (i:Int) (e:zab):tReg zaN zT 19 ⟨[(2,AV.loc 2 9 0 0),(6,AV.loc 18 1 0 0),(9,AV.map 37),(11,AV.loc 11 9 0 0),(38,AV.sl 9 (List.map zaa ev)),(39,I n),(40,I i)],[(2,⟨9,zan,[zaj s],true⟩),(11,⟨9,zah,[zaa e],true⟩),(18,⟨1,zaI,xs,false⟩),(37,⟨0,zav,R,false⟩)]⟩=(chk (0 < xs.length)<|
 callD zhi (cw zhc [AV.fa 1 xs,AV.agg (zaj s),AV.agg (zaa e)] []) fun (r0:Int×(Option Addr)) =>
 some ⟨[(2,AV.loc 2 9 0 0),(6,AV.loc 18 1 0 0),(9,AV.map 37),(11,AV.loc 11 9 0 0),(13,I r0.fst),(14,AV.v (.pointer (r0.snd))),(38,AV.sl 9 (List.map zaa ev)),(39,I n),(40,I i)],[(2,⟨9,zan,[zaj s],true⟩),(11,⟨9,zah,[zaa e],true⟩),(18,⟨1,zaI,xs,false⟩),(37,⟨0,zav,R,false⟩)]⟩):=by kernel_rfl
theorem w20n (s:zak) (ev:List zab) (xs:List (List AV)) (R:List (List AV)) (n:Int) (i:Int) (e:zab) (q:Int):tReg zaN zT 20 ⟨[(2,AV.loc 2 9 0 0),(6,AV.loc 18 1 0 0),(9,AV.map 37),(11,AV.loc 11 9 0 0),(13,I q),(14,AV.v (.pointer none)),(38,AV.sl 9 (List.map zaa ev)),(39,I n),(40,I i)],[(2,⟨9,zan,[zaj s],true⟩),(11,⟨9,zah,[zaa e],true⟩),(18,⟨1,zaI,xs,false⟩),(37,⟨0,zav,R,false⟩)]⟩=(some ⟨[(2,AV.loc 2 9 0 0),(6,AV.loc 18 1 0 0),(9,AV.map 37),(11,AV.loc 11 9 0 0),(13,I q),(14,AV.v (.pointer none)),(38,AV.sl 9 (List.map zaa ev)),(39,I n),(40,I i),(80,B true)],[(2,⟨9,zan,[zaj s],true⟩),(11,⟨9,zah,[zaa e],true⟩),(18,⟨1,zaI,xs,false⟩),(37,⟨0,zav,R,false⟩)]⟩):=by kernel_rfl
theorem w20p (s:zak) (ev:List zab) (xs:List (List AV)) (R:List (List AV)) (n:Int) (i:Int) (e:zab) (q:Int) (p:Addr):tReg zaN zT 20 ⟨[(2,AV.loc 2 9 0 0),(6,AV.loc 18 1 0 0),(9,AV.map 37),(11,AV.loc 11 9 0 0),(13,I q),(14,AV.v (.pointer (some p))),(38,AV.sl 9 (List.map zaa ev)),(39,I n),(40,I i)],[(2,⟨9,zan,[zaj s],true⟩),(11,⟨9,zah,[zaa e],true⟩),(18,⟨1,zaI,xs,false⟩),(37,⟨0,zav,R,false⟩)]⟩=(some ⟨[(2,AV.loc 2 9 0 0),(6,AV.loc 18 1 0 0),(9,AV.map 37),(11,AV.loc 11 9 0 0),(13,I q),(14,AV.v (.pointer (some p))),(38,AV.sl 9 (List.map zaa ev)),(39,I n),(40,I i),(80,B false)],[(2,⟨9,zan,[zaj s],true⟩),(11,⟨9,zah,[zaa e],true⟩),(18,⟨1,zaI,xs,false⟩),(37,⟨0,zav,R,false⟩)]⟩):=by kernel_rfl
theorem w21 (s:zak) (ev:List zab) (xs:List (List AV)) (R:List (List AV)) (n:Int) (i:Int) (e:zab) (q:Int) (p:Addr):tReg zaN zT 21 ⟨[(2,AV.loc 2 9 0 0),(6,AV.loc 18 1 0 0),(9,AV.map 37),(11,AV.loc 11 9 0 0),(13,I q),(14,AV.v (.pointer (some p))),(38,AV.sl 9 (List.map zaa ev)),(39,I n),(40,I i)],[(2,⟨9,zan,[zaj s],true⟩),(11,⟨9,zah,[zaa e],true⟩),(18,⟨1,zaI,xs,false⟩),(37,⟨0,zav,R,false⟩)]⟩=(callD zj5 (cw zjP [AV.agg (zaj s),I e.Script] []) fun (r0:GSeed×Bool)=>some ⟨[(2,AV.loc 2 9 0 0),(6,AV.loc 18 1 0 0),(9,AV.map 37),(11,AV.loc 11 9 0 0),(13,I q),(14,AV.v (.pointer (some p))),(15,AV.loc 15 2 0 0),(16,B r0.snd),(38,AV.sl 9 (List.map zaa ev)),(39,I n),(40,I i)],[(2,⟨9,zan,[zaj s],true⟩),(11,⟨9,zah,[zaa e],true⟩),(15,⟨2,zdZ,[zcd r0.fst],true⟩),(18,⟨1,zaI,xs,false⟩),(37,⟨0,zav,R,false⟩)]⟩):=by kernel_rfl
theorem w22 (s:zak) (ev:List zab) (xs:List (List AV)) (R:List (List AV)) (n:Int) (i:Int) (e:zab) (q:Int) (p:Addr) (sd:GSeed) (b:Bool):tReg zaN zT 22 ⟨[(2,AV.loc 2 9 0 0),(6,AV.loc 18 1 0 0),(9,AV.map 37),(11,AV.loc 11 9 0 0),(13,I q),(14,AV.v (.pointer (some p))),(15,AV.loc 15 2 0 0),(16,B b),(38,AV.sl 9 (List.map zaa ev)),(39,I n),(40,I i)],[(2,⟨9,zan,[zaj s],true⟩),(11,⟨9,zah,[zaa e],true⟩),(15,⟨2,zdZ,[zcd sd],true⟩),(18,⟨1,zaI,xs,false⟩),(37,⟨0,zav,R,false⟩)]⟩=(some ⟨[(2,AV.loc 2 9 0 0),(6,AV.loc 18 1 0 0),(9,AV.map 37),(11,AV.loc 11 9 0 0),(13,I q),(14,AV.v (.pointer (some p))),(15,AV.loc 15 2 0 0),(38,AV.sl 9 (List.map zaa ev)),(39,I n),(40,I i),(88,B b)],[(2,⟨9,zan,[zaj s],true⟩),(11,⟨9,zah,[zaa e],true⟩),(15,⟨2,zdZ,[zcd sd],true⟩),(18,⟨1,zaI,xs,false⟩),(37,⟨0,zav,R,false⟩)]⟩):=by kernel_rfl
theorem w23 (s:zak) (ev:List zab) (xs:List (List AV)) (R:List (List AV)) (n:Int) (i:Int) (e:zab) (q:Int) (p:Addr) (sd:GSeed) (d:zat):tReg0 zaN zT 23 ⟨[(14,AV.loc 1300 14 0 0),(2,AV.loc 2 9 0 0),(6,AV.loc 18 1 0 0),(9,AV.map 37),(11,AV.loc 11 9 0 0),(13,I q),(14,AV.v (.pointer (some p))),(15,AV.loc 15 2 0 0),(38,AV.sl 9 (List.map zaa ev)),(39,I n),(40,I i)],[(1300,⟨14,zbu,[[I d.level,AV.row 301 10 0 (List.length (List.map zar d.marks)),I d.period,I d.started.Time,I d.started.Source,I d.started.Seq,AV.map 302,AV.sl 1 (List.map nBool d.watch.Last),B d.watch.Suspended,I d.good.Time,I d.good.Source,I d.good.Seq,B d.some,AV.row 303 12 0 (List.length (List.map zao d.suspensions))]],true⟩),(301,⟨10,zbv,List.map zar d.marks,false⟩),(302,⟨0,za2,List.map zaz d.noted,false⟩),(303,⟨12,zay,List.map zao d.suspensions,false⟩),(2,⟨9,zan,[zaj s],true⟩),(11,⟨9,zah,[zaa e],true⟩),(15,⟨2,zdZ,[zcd sd],true⟩),(18,⟨1,zaI,xs,false⟩),(37,⟨0,zav,R,false⟩)]⟩=(chk ((0:Int)≤q)<|
 elemD zct (List.map zaT s.Papers) q.toNat fun (c0:zaJ) =>
 chk ((List.map zar d.marks).length=(List.map zar d.marks).length)<|
 chk ((List.map zao d.suspensions).length=(List.map zao d.suspensions).length)<|
 callD zcX (cw zhJ [AV.loc 1000 14 0 0,AV.agg (zaj s),AV.agg (zaT c0),AV.agg (zcd sd),AV.agg (zaa e)] [(1000,⟨14,zbu,[[I d.level,AV.row 900 10 0 ((List.map zar d.marks).length),I d.period,I d.started.Time,I d.started.Source,I d.started.Seq,AV.map 901,AV.sl 1 (List.map nBool d.watch.Last),B d.watch.Suspended,I d.good.Time,I d.good.Source,I d.good.Seq,B d.some,AV.row 902 12 0 ((List.map zao d.suspensions).length)]],true⟩),(900,⟨10,zbv,List.map zar d.marks,false⟩),(901,⟨0,za2,List.map zaz d.noted,false⟩),(902,⟨12,zay,List.map zao d.suspensions,false⟩)]) fun (r1:zat) =>
 some ⟨[(98,AV.tup []),(97,AV.agg [I e.Stamp.Time,I e.Stamp.Source,I e.Stamp.Seq,I e.Kind,I e.Script,I e.Part,I e.Value,I e.Marker,AV.sl 1 (List.map zaf e.Pages)]),(96,AV.agg [I sd.Script,AV.sl 1 (List.map zaf sd.Marks)]),(95,AV.agg [I c0.Code,I c0.Variant,AV.sl 6 (List.map zaQ c0.Parts)]),(94,AV.fp [I c0.Code,I c0.Variant,AV.sl 6 (List.map zaQ c0.Parts)]),(93,I q),(92,AV.sl 3 (List.map zaT s.Papers)),(91,AV.loc 2 9 0 (0+2)),(90,AV.agg [AV.sl 5 (List.map zbh s.Markers),AV.sl 7 (List.map za0 s.Scripts),AV.sl 3 (List.map zaT s.Papers),AV.sl 2 (List.map zbJ s.Schemes),AV.sl 2 (List.map zcd s.Seeds),I s.Monitor.Part,I s.Monitor.Total,I s.Monitor.Window,I s.Monitor.Fails]),(89,AV.loc 1300 14 0 0),(14,AV.loc 1300 14 0 0),(2,AV.loc 2 9 0 0),(6,AV.loc 18 1 0 0),(9,AV.map 37),(11,AV.loc 11 9 0 0),(13,I q),(14,AV.v (.pointer (some p))),(15,AV.loc 15 2 0 0),(38,AV.sl 9 (List.map zaa ev)),(39,I n),(40,I i)],[(301,⟨10,zbv,List.map zar r1.marks,false⟩),(302,⟨0,za2,List.map zaz r1.noted,false⟩),(303,⟨12,zay,List.map zao r1.suspensions,false⟩),(1300,⟨14,zbu,[[I r1.level,AV.row 301 10 0 (List.length (List.map zar r1.marks)),I r1.period,I r1.started.Time,I r1.started.Source,I r1.started.Seq,AV.map 302,AV.sl 1 (List.map nBool r1.watch.Last),B r1.watch.Suspended,I r1.good.Time,I r1.good.Source,I r1.good.Seq,B r1.some,AV.row 303 12 0 (List.length (List.map zao r1.suspensions))]],true⟩),(2,⟨9,zan,[zaj s],true⟩),(11,⟨9,zah,[zaa e],true⟩),(15,⟨2,zdZ,[zcd sd],true⟩),(18,⟨1,zaI,xs,false⟩),(37,⟨0,zav,R,false⟩)]⟩):=by kernel_rfl
theorem w24 (s:zak) (ev:List zab) (xs:List (List AV)) (R:List (List AV)) (n:Int) (i:Int) (e:zab) (q:Int) (p:Addr) (sd:GSeed) (d:zat):tReg0 zaN zT 24 ⟨[(14,AV.loc 1300 14 0 0),(2,AV.loc 2 9 0 0),(6,AV.loc 18 1 0 0),(9,AV.map 37),(11,AV.loc 11 9 0 0),(13,I q),(14,AV.v (.pointer (some p))),(15,AV.loc 15 2 0 0),(38,AV.sl 9 (List.map zaa ev)),(39,I n),(40,I i)],[(1300,⟨14,zbu,[[I d.level,AV.row 301 10 0 (List.length (List.map zar d.marks)),I d.period,I d.started.Time,I d.started.Source,I d.started.Seq,AV.map 302,AV.sl 1 (List.map nBool d.watch.Last),B d.watch.Suspended,I d.good.Time,I d.good.Source,I d.good.Seq,B d.some,AV.row 303 12 0 (List.length (List.map zao d.suspensions))]],true⟩),(301,⟨10,zbv,List.map zar d.marks,false⟩),(302,⟨0,za2,List.map zaz d.noted,false⟩),(303,⟨12,zay,List.map zao d.suspensions,false⟩),(2,⟨9,zan,[zaj s],true⟩),(11,⟨9,zah,[zaa e],true⟩),(15,⟨2,zdZ,[zcd sd],true⟩),(18,⟨1,zaI,xs,false⟩),(37,⟨0,zav,R,false⟩)]⟩=(chk ((List.map zar d.marks).length=(List.map zar d.marks).length)<|
 chk (((List.map zar d.marks).length+1)*(96+1)≤1099511627776)<|
 some ⟨[(114,AV.loc 1300 14 0 (0+1)),(113,AV.loc 1300 14 0 0),(112,AV.row 112 10 0 (List.length ((List.map zar d.marks)++([[I e.Stamp.Time,I e.Stamp.Source,I e.Stamp.Seq,I e.Kind,I e.Script,I e.Part,I e.Value,I e.Marker,AV.sl 1 (List.map zaf e.Pages),B d.watch.Suspended]])))),(111,AV.sl 10 ([[I e.Stamp.Time,I e.Stamp.Source,I e.Stamp.Seq,I e.Kind,I e.Script,I e.Part,I e.Value,I e.Marker,AV.sl 1 (List.map zaf e.Pages),B d.watch.Suspended]])),(110,AV.agg [I e.Stamp.Time,I e.Stamp.Source,I e.Stamp.Seq,I e.Kind,I e.Script,I e.Part,I e.Value,I e.Marker,AV.sl 1 (List.map zaf e.Pages),B d.watch.Suspended]),(109,B d.watch.Suspended),(108,AV.loc 1300 14 0 (0+7+1)),(107,AV.loc 1300 14 0 (0+7)),(106,AV.loc 1300 14 0 0),(105,AV.loc 1300 14 0 0),(104,AV.agg [I e.Stamp.Time,I e.Stamp.Source,I e.Stamp.Seq,I e.Kind,I e.Script,I e.Part,I e.Value,I e.Marker,AV.sl 1 (List.map zaf e.Pages)]),(103,.bot),(102,AV.loc 1300 14 0 (0+1)),(101,AV.loc 1300 14 0 0),(100,AV.loc 1300 14 0 0),(99,AV.loc 1300 14 0 0),(14,AV.loc 1300 14 0 0),(2,AV.loc 2 9 0 0),(6,AV.loc 18 1 0 0),(9,AV.map 37),(11,AV.loc 11 9 0 0),(13,I q),(14,AV.v (.pointer (some p))),(15,AV.loc 15 2 0 0),(38,AV.sl 9 (List.map zaa ev)),(39,I n),(40,I i)],[(112,⟨10,zbv,(List.map zar d.marks)++([zar (⟨⟨⟨e.Stamp.Time,e.Stamp.Source,e.Stamp.Seq⟩,e.Kind,e.Script,e.Part,e.Value,e.Marker,e.Pages⟩,d.watch.Suspended⟩)]),false⟩),(1300,⟨14,zbu,[[I d.level,AV.row 112 10 0 (List.length ((List.map zar d.marks)++([[I e.Stamp.Time,I e.Stamp.Source,I e.Stamp.Seq,I e.Kind,I e.Script,I e.Part,I e.Value,I e.Marker,AV.sl 1 (List.map zaf e.Pages),B d.watch.Suspended]]))),I d.period,I d.started.Time,I d.started.Source,I d.started.Seq,AV.map 302,AV.sl 1 (List.map nBool d.watch.Last),B d.watch.Suspended,I d.good.Time,I d.good.Source,I d.good.Seq,B d.some,AV.row 303 12 0 (List.length (List.map zao d.suspensions))]],true⟩),(302,⟨0,za2,List.map zaz d.noted,false⟩),(303,⟨12,zay,List.map zao d.suspensions,false⟩),(2,⟨9,zan,[zaj s],true⟩),(11,⟨9,zah,[zaa e],true⟩),(15,⟨2,zdZ,[zcd sd],true⟩),(18,⟨1,zaI,xs,false⟩),(37,⟨0,zav,R,false⟩)]⟩):=by kernel_rfl
theorem w25 (s:zak) (ev:List zab) (xs:List (List AV)) (R:List (List AV)) (n:Int) (i:Int):tReg zaN zT 25 ⟨[(2,AV.loc 2 9 0 0),(6,AV.loc 18 1 0 0),(9,AV.map 37),(38,AV.sl 9 (List.map zaa ev)),(39,I n),(40,I i)],[(2,⟨9,zan,[zaj s],true⟩),(18,⟨1,zaI,xs,false⟩),(37,⟨0,zav,R,false⟩)]⟩=(some ⟨[(2,AV.loc 2 9 0 0),(6,AV.loc 18 1 0 0),(9,AV.map 37),(38,AV.sl 9 (List.map zaa ev)),(39,I n),(40,I (w64 (i+1)))],[(2,⟨9,zan,[zaj s],true⟩),(18,⟨1,zaI,xs,false⟩),(37,⟨0,zav,R,false⟩)]⟩):=by kernel_rfl
theorem w26 (xs:List (List AV)) (R:List (List AV)):tReg zaN zT 26 ⟨[(6,AV.loc 18 1 0 0),(9,AV.map 37)],[(18,⟨1,zaI,xs,false⟩),(37,⟨0,zav,R,false⟩)]⟩=(some ⟨[(4,AV.loc 18 1 0 0),(5,AV.map 37)],[(18,⟨1,zaI,xs,false⟩),(37,⟨0,zav,R,false⟩)]⟩):=by kernel_rfl
end Go.Proofs.YtlecnobdfhlmnaaGreat
namespace Go.Proofs.YtlecnobdfhlmnaaGreat
open Go.Ab
set_option maxRecDepth 100000
theorem below_succ {p:Nat→Prop} {n:Nat} (h:∀ k,k < n→p k) (hn:p n):∀ k,k < n+1→p k:=fun k hk=>by
 rcases Nat.lt_succ_iff_lt_or_eq.1 hk with q | q
 · exact h k q
 · rw [q]; exact hn
theorem w5:∀ k:Nat,k < 100→∀ (s:zak) (ev:List zab) (x:Nat→Option Addr) (n:Int) (i:Int) (c:Int) (l:Int) (cap:Int) (ps:List Int),tReg zaN zT 5 ⟨[(1,AV.sl 9 (List.map zaa ev)),(2,AV.loc 2 9 0 0),(6,AV.loc 18 100 0 0),(8,AV.loc 8 5 0 0),(20,AV.sl 5 (List.map zbh s.Markers)),(21,I n),(22,I i)],[(2,⟨9,zan,[zaj s],true⟩),(8,⟨5,zea,[zbh (⟨(k:Int),c,l,cap,ps⟩)],true⟩),(18,⟨100,zaI,[cells x],true⟩)]⟩=(some ⟨[(1,AV.sl 9 (List.map zaa ev)),(2,AV.loc 2 9 0 0),(6,AV.loc 18 100 0 0),(20,AV.sl 5 (List.map zbh s.Markers)),(21,I n),(22,I i)],[(2,⟨9,zan,[zaj s],true⟩),(18,⟨100,zaI,[(cells x).set k (AV.loc 33 14 0 0)],true⟩),(33,⟨14,zbu,[[I l,AV.row 301 10 0 0,I 0,I 0,I 0,I 0,AV.map 302,AV.sl 1 [],B false,I 0,I 0,I 0,B false,AV.row 303 12 0 0]],true⟩),(301,⟨10,zbv,[],false⟩),(302,⟨0,za2,[],false⟩),(303,⟨12,zay,[],false⟩)]⟩):=by
 repeat (first | exact fun _ h=>absurd h (Nat.not_lt_zero _) | refine below_succ ?_ ?_)
 all_goals intros; kernel_rfl
end Go.Proofs.YtlecnobdfhlmnaaGreat
end
