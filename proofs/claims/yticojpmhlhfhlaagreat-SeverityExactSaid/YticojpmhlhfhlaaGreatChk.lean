/- Which papers, schemes, markers and scripts are right: both programs say the same. -/
import Derived.Test.YticojpmhlhfhlaaGreatBas
namespace Go.Proofs.YticojpmhlhfhlaaGreat
open Go.Ab
set_option linter.unusedSimpArgs false
def OkPart (p:GPart):Prop:=
 (1≤p.Max∧p.Max≤40)∧(0≤p.Topic∧p.Topic < 16)∧(0≤p.Objective∧p.Objective < 6) ∧
 ((p.Kind=1∧p.Options=0∧p.Key=0)∨(p.Kind=2∧2≤p.Options∧p.Options≤5∧0≤p.Key∧p.Key < p.Options))
instance (p:GPart):Decidable (OkPart p):=by unfold OkPart; infer_instance
theorem zuY (p:GPart):cw zpf [.agg (zav p)] []=some (zpy (dec (OkPart p))):=by
 refine zEh p ?_
 simp only [zb1,decide_eq_true_eq,beq_iff_eq]
 repeat' split
 all_goals first
  | (rw [zaz (by unfold OkPart; omega)]; rfl)
  | (rw [show (p.Key == 0)=dec (OkPart p) from zdG (by simp only [beq_iff_eq]; unfold OkPart; omega)]; rfl)
  | (rw [show decide (p.Key < p.Options)=dec (OkPart p) from zdG (by simp only [decide_eq_true_eq]; unfold OkPart; omega)]; rfl)
theorem zud (p:GPart):cw zog [.agg (zav p)] []=some (zof (dec (OkPart p))):=by
 refine zCz p ?_
 simp only [zb1,decide_eq_true_eq,beq_iff_eq]
 repeat' split
 all_goals first
  | (rw [zaz (by unfold OkPart; omega)]; rfl)
  | (rw [show (p.Key == 0)=dec (OkPart p) from zdG (by simp only [beq_iff_eq]; unfold OkPart; omega)]; rfl)
  | (rw [show decide (p.Key < p.Options)=dec (OkPart p) from zdG (by simp only [decide_eq_true_eq]; unfold OkPart; omega)]; rfl)
def sumMax (l:List GPart):Int:=(l.map (·.Max)).sum
theorem zwC (p:GPart) (l:List GPart):sumMax (p :: l)=p.Max+sumMax l:=by simp [sumMax]
theorem zAN {l:List GPart} (h:∀ p∈l,OkPart p):0≤sumMax l∧sumMax l≤40*l.length:=by
 induction l with
 | nil=>simp [sumMax]
 | cons p l ih =>
   have h1:=ih (fun q hq=>h q (by simp [hq]))
   have h2:=(h p (by simp)).1
   rw [zwC,List.length_cons]
   omega
def zfh (p:GPaper):Prop:=
 (0≤p.Code∧p.Code≤31)∧(0≤p.Variant∧p.Variant < 4)∧(1≤p.Parts.length∧p.Parts.length≤24)∧(∀ x∈p.Parts,OkPart x)∧sumMax p.Parts≤200
theorem zEy (l:List GPart) (h:∀ p∈l,OkPart p) (hl:l.length≤24):cw zqY [.sl 6 (List.map zav l)] []=some (zl6 (sumMax l)):=by
 refine zE6 l ?_
 have hb:=zAN h
 refine zaZ l (fun i r=>∀ s:Int,0≤s→0≤sumMax r→s+sumMax r=sumMax l→zjN l s i=some (zl6 (sumMax l))) ?_ ?_ 0 (by omega) (by omega) (by omega)
 · intro s _ _ hs
   refine ztY l _ _ ?_
   simp (disch:=omega) [zaq]
   rw [← hs]; simp [sumMax]; rfl
 · intro i hi r hr ih s h0 h1 hs
   refine ztY l _ _ ?_
   have hm:=(h l[i] (List.getElem_mem hi)).1
   rw [zwC] at hs h1
   have hr0:0≤sumMax r:=(zAN (l:=r) (fun q hq=>h q (by rw [← hr] at hq; exact List.mem_of_mem_drop hq))).1
   simp (disch:=omega) [zak,zac,w64_id]
   exact ih _ (by omega) hr0 (by omega)
theorem zBX (p:GPaper):cw znT [.agg (zas p)] []=some (zgL (dec (zfh p))):=by
 refine zBP p ?_
 by_cases hh:((0≤p.Code∧p.Code≤31)∧(0≤p.Variant∧p.Variant < 4)∧(1≤p.Parts.length∧p.Parts.length≤24))
 · simp (disch:=omega) only [List.length_map,zaq]
   have hg:=fun z h0=>zjX p.Parts.length (fun j hj=>OkPart p.Parts[j]) (fun i=>zhR p i) (fun y=>y=zgL false) z h0
    (fun i hi _ hn=>⟨_,rfl,zlX p _ (by simp (disch:=omega) [zak,zac,zuY,zaz hn]; rfl)⟩)
    (fun i hi y hy hk=>zlX p _ (by simp (disch:=omega) [zak,zac,w64_id,zuY,zax hy,hk]))
   rcases hg (zgL (dec (zfh p))) (fun h=>zlX p _ (by
    have h':=znu.1 h
    simp (disch:=omega) [zaq,zEy p.Parts h' (by omega)]
    rw [show decide (sumMax p.Parts≤200)=dec (zfh p) from zdG (by simp only [decide_eq_true_eq]; unfold zfh; exact ⟨fun h=>⟨hh.1,hh.2.1,hh.2.2,h',h⟩,fun h=>h.2.2.2.2⟩)]
    rfl)) with ⟨h1,h2⟩ | ⟨⟨j,hj,h1⟩,y,rfl,h3⟩
   · exact h2
   · rw [zaz (fun h=>h1 (h.2.2.2.1 _ (List.getElem_mem hj)))]
     exact h3
 · rw [zaz (fun h=>hh ⟨h.1,h.2.1,h.2.2.1⟩)]
   simp only [zb1,decide_eq_true_eq,List.length_map]
   repeat' split
   all_goals first
    | rfl
    | omega
theorem zAC (p:GPaper):cw zmB [.agg (zas p)] []=some (zi7 (dec (zfh p))):=by
 refine zBc p ?_
 by_cases hh:((0≤p.Code∧p.Code≤31)∧(0≤p.Variant∧p.Variant < 4)∧(1≤p.Parts.length∧p.Parts.length≤24))
 · simp (disch:=omega) only [List.length_map,zaq]
   have key:=zaZ p.Parts (fun i r=>∀ s:Int,0≤s→s≤40*i→(zfh p↔(∀ x∈r,OkPart x)∧s+sumMax r≤200)→zg2 p s i=some (zi7 (dec (zfh p)))) ?_ ?_ 0 (by omega) (by omega) ?_
   · exact key
   · intro s h0 h1 hs
     refine zqy p _ _ ?_
     simp (disch:=omega) only [List.length_map,zaq]
     rw [show decide (s≤200)=dec (zfh p) from zdG (by rw [hs]; simp [sumMax])]
     rfl
   · intro i hi r hr ih s h0 h1 hs
     refine zqy p _ _ ?_
     by_cases hp:OkPart p.Parts[i]
     · have hm:=hp.1
       simp (disch:=omega) [zak,zac,w64_id,zud,zax hp]
       refine ih _ (by omega) (by omega) (hs.trans ?_)
       rw [zwC]
       constructor
       · rintro ⟨h2,h3⟩; exact ⟨fun x hx=>h2 x (by simp [hx]),by omega⟩
       · rintro ⟨h2,h3⟩
         refine ⟨fun x hx=>?_,by omega⟩
         rcases List.mem_cons.1 hx with rfl | hx
         · exact hp
         · exact h2 x hx
     · simp (disch:=omega) [zak,zac,zud,zaz hp]
       rw [zaz (fun h=>hp ((hs.1 h).1 _ (by simp)))]
       rfl
   · unfold zfh
     constructor
     · intro h; exact ⟨h.2.2.2.1,by simpa using h.2.2.2.2⟩
     · intro h; exact ⟨hh.1,hh.2.1,hh.2.2,h.1,by simpa using h.2⟩
 · rw [zaz (fun h=>hh ⟨h.1,h.2.1,h.2.2.1⟩)]
   simp only [zb1,decide_eq_true_eq,List.length_map]
   repeat' split
   all_goals first
    | rfl
    | omega
def OkKeys (o:Int) (ks:List Int):Prop:=(∀ k∈ks,0≤k∧k < o)∧AscBy id ks
theorem zJD {ks:List Int}:OkKeys 0 ks↔ks=[]:=by
 constructor
 · intro h
   cases ks with
   | nil=>rfl
   | cons k ks=>have:=h.1 k (by simp); omega
 · rintro rfl; exact ⟨by simp,fun j hj=>by simp at hj⟩
theorem zy0 {o:Int} {ks:List Int}:(∀ j (hj:j < ks.length),(0≤ks[j]∧ks[j] < o)∧∀ h:0 < j,(ks[j - 1]'(by omega)) < ks[j])↔OkKeys o ks:=by
 unfold OkKeys
 rw [← zsi,← znu]
 exact ⟨fun h=>⟨fun j hj=>(h j hj).1,fun j hj=>(h j hj).2⟩,fun h j hj=>⟨h.1 j hj,h.2 j hj⟩⟩
theorem zm4 (p:GPart) (ks:List Int) (hp:OkPart p) (hl:ks.length≤1000000) :
  cw zmX [.agg (zav p),.sl 1 (List.map zaa ks)] []=some (ziZ (dec (OkKeys p.Options ks))):=by
 refine zAF p ks ?_
 by_cases hk:p.Kind=1
 · have ho:p.Options=0:=by unfold OkPart at hp; omega
   simp only [hk,beq_self_eq_true,zap,List.length_map]
   rw [show ((ks.length:Int) == 0)=dec (OkKeys p.Options ks) from zdG (by rw [ho,zJD]; simp)]
   rfl
 · simp only [show (p.Kind == 1)=false by simpa using hk,zai]
   rw [← zfM zy0]
   refine zm0 ks.length _ (fun i=>zeX p ks i) (fun b=>ziZ b) ?_ ?_ ?_
   · exact zli p ks _ (by simp (disch:=omega) only [List.length_map,zaq]; rfl)
   · intro i hi hg
     refine zli p ks _ ?_
     by_cases h1:0≤ks[i]∧ks[i] < p.Options
     · have h0:0 < i:=by
        apply Nat.pos_of_ne_zero
        rintro rfl
        exact hg ⟨h1,fun h=>absurd h (by omega)⟩
       have h2:¬ (ks[i - 1] < ks[i]):=fun h=>hg ⟨h1,fun _=>h⟩
       simp (disch:=omega) [zak,zaq,zac,w64_id,zcL h0]
       rfl
     · by_cases h2:ks[i] < 0
       · simp (disch:=omega) [zak,zac]
         rfl
       · simp (disch:=omega) [zak,zaq,zac]
         rfl
   · intro i hi y hg hk'
     refine zli p ks _ ?_
     by_cases h0:0 < i
     · have h2:=hg.2 h0
       have h1:=hg.1
       simp (disch:=omega) [zak,zaq,zac,w64_id,zcL h0,hk']
     · have h1:=hg.1
       simp (disch:=omega) [zak,zaq,zac,w64_id,hk']
theorem zv1 (k:Int):cw zqC [I k] []=some (zrm (dec (0≤k∧k≤2))):=by
 refine zFA k ?_
 simp only [zb1,beq_iff_eq]
 repeat' split
 all_goals first
  | (rw [zax (by omega)]; rfl)
  | (rw [zaz (by omega)]; rfl)
def zdu (p:GPaper) (s:GScheme):Prop:=
 zfh p∧s.Keys.length=p.Parts.length∧s.Withdrawn.length=p.Parts.length ∧
 ∀ (j:Nat) (x:GPart) (ks:List Int) (k:Int),p.Parts[j]?=some x→s.Keys[j]?=some ks→s.Withdrawn[j]?=some k→OkKeys x.Options ks∧(0≤k∧k≤2)
def Short (s:GScheme):Prop:=∀ ks∈s.Keys,ks.length≤1000000
theorem zBb {p:GPaper} {s:GScheme} (h1:s.Keys.length=p.Parts.length) (h2:s.Withdrawn.length=p.Parts.length) (hp:zfh p) :
  (∀ j (hj:j < p.Parts.length),OkKeys p.Parts[j].Options (s.Keys[j]'(by omega))∧(0≤s.Withdrawn[j]'(by omega)∧s.Withdrawn[j]'(by omega)≤2))↔zdu p s:=by
 unfold zdu
 constructor
 · intro h
   refine ⟨hp,h1,h2,fun j x ks k a b c=>?_⟩
   obtain ⟨hj,rfl⟩:=List.getElem?_eq_some_iff.1 a
   obtain ⟨_,rfl⟩:=List.getElem?_eq_some_iff.1 b
   obtain ⟨_,rfl⟩:=List.getElem?_eq_some_iff.1 c
   exact h j hj
 · intro h j hj
   exact h.2.2.2 j _ _ _ (List.getElem?_eq_getElem hj) (List.getElem?_eq_getElem (by omega)) (List.getElem?_eq_getElem (by omega))
theorem znw (p:GPaper) (s:GScheme) (hs:Short s):cw znz [.agg (zas p),.agg (zaW s)] []=some (znk (dec (zdu p s))):=by
 refine zFV p s ?_
 simp only [zBX,zxN,List.length_map]
 by_cases hp:zfh p
 · by_cases h1:s.Keys.length=p.Parts.length
   · by_cases h2:s.Withdrawn.length=p.Parts.length
     · simp only [zax hp,h1,h2,Bool.not_true,zai,bne_self_eq_false]
       have hpl:=hp.2.2.1
       rw [← zfM (zBb h1 h2 hp)]
       refine zm0 p.Parts.length _ (fun i=>zkO p s i) (fun b=>znk b) ?_ ?_ ?_
       · exact zpk p s _ (by simp (disch:=omega) only [List.length_map,zaq]; rfl)
       · intro i hi hg
         have hi1:i < s.Keys.length:=by omega
         have hi2:i < s.Withdrawn.length:=by omega
         refine zpk p s _ ?_
         have hx:=hp.2.2.2.1 _ (List.getElem_mem hi)
         by_cases h3:OkKeys p.Parts[i].Options s.Keys[i]
         · have h4:¬ (0≤s.Withdrawn[i]∧s.Withdrawn[i]≤2):=fun h=>hg ⟨h3,h⟩
           simp (disch:=omega) [zak,zac,zm4 _ _ hx (hs _ (List.getElem_mem hi1)),zax h3,zv1,zaz h4]
           rfl
         · simp (disch:=omega) [zak,zac,zm4 _ _ hx (hs _ (List.getElem_mem hi1)),zaz h3]
           rfl
       · intro i hi y hg hk'
         have hi1:i < s.Keys.length:=by omega
         have hi2:i < s.Withdrawn.length:=by omega
         refine zpk p s _ ?_
         have hx:=hp.2.2.2.1 _ (List.getElem_mem hi)
         simp (disch:=omega) [zak,zac,w64_id,zm4 _ _ hx (hs _ (List.getElem_mem hi1)),zax hg.1,zv1,zax hg.2,hk']
     · rw [zaz (p:=zdu p s) (fun h=>h2 h.2.2.1)]
       simp only [zax hp,h1,Bool.not_true,zai,bne_self_eq_false,show ((s.Withdrawn.length:Int) != p.Parts.length)=true by simpa using (by omega:¬ ((s.Withdrawn.length:Int)=p.Parts.length)),zap]
       rfl
   · rw [zaz (p:=zdu p s) (fun h=>h1 h.2.1)]
     simp only [zax hp,Bool.not_true,zai,show ((s.Keys.length:Int) != p.Parts.length)=true by simpa using (by omega:¬ ((s.Keys.length:Int)=p.Parts.length)),zap]
     rfl
 · rw [zaz hp,zaz (fun h=>hp h.1)]
   rfl
theorem zgG (p:GPaper) (s:GScheme) (hs:Short s):cw zie [.agg (zas p),.agg (zaW s)] []=some (zfq (dec (zdu p s))):=by
 refine zG6 p s ?_
 simp only [zAC,zwN,List.length_map]
 by_cases hp:zfh p
 · by_cases h1:s.Keys.length=p.Parts.length
   · by_cases h2:s.Withdrawn.length=p.Parts.length
     · simp only [zax hp,h1,h2,Bool.not_true,zai,bne_self_eq_false]
       have hpl:=hp.2.2.1
       rw [← zfM (zBb h1 h2 hp)]
       have inner:∀ (i:Nat) (hi:i < p.Parts.length) (y:AV×Mem),zi0 p s ((i:Int)+1)=some y →
         (OkKeys p.Parts[i].Options (s.Keys[i]'(by omega))→zdA p s i 0=some y):=by
        intro i hi y hk hg
        have hi1:i < s.Keys.length:=by omega
        have hlk:=hs _ (List.getElem_mem hi1)
        have hg':=zy0.2 hg
        refine zaZ s.Keys[i] (fun j r=>zdA p s i j=some y) ?_ ?_
        · refine zmp p s _ _ ?_
          simp (disch:=omega) [zaq,zac,w64_id,hk]
        · intro j hj r hr ih
          refine zmp p s _ _ ?_
          obtain ⟨g1,g2⟩:=hg' j hj
          by_cases h0:0 < j
          · have g3:=g2 h0
            simp (disch:=omega) [zak,zaq,zac,w64_id,zcL h0,ih]
          · simp (disch:=omega) [zak,zaq,zac,w64_id,ih]
       have innerNo:∀ (i:Nat) (hi:i < p.Parts.length),¬ OkKeys p.Parts[i].Options (s.Keys[i]'(by omega))→zdA p s i 0=some (zfq false):=by
        intro i hi hg
        have hi1:i < s.Keys.length:=by omega
        have hlk:=hs _ (List.getElem_mem hi1)
        rw [← zy0] at hg
        have hno:∀ j (hj:j < s.Keys[i].length),¬ ((0≤s.Keys[i][j]∧s.Keys[i][j] < p.Parts[i].Options)∧∀ h:0 < j,(s.Keys[i][j - 1]'(by omega)) < s.Keys[i][j])→zdA p s i j=some (zfq false):=by
         intro j hj hn
         refine zmp p s _ _ ?_
         by_cases g1:0≤s.Keys[i][j]∧s.Keys[i][j] < p.Parts[i].Options
         · have h0:0 < j:=by
            apply Nat.pos_of_ne_zero
            rintro rfl
            exact hn ⟨g1,fun h=>absurd h (by omega)⟩
           have g2:¬ (s.Keys[i][j - 1] < s.Keys[i][j]):=fun h=>hn ⟨g1,fun _=>h⟩
           simp (disch:=omega) [zak,zaq,zac,w64_id,zcL h0]
           rfl
         · by_cases g2:s.Keys[i][j] < 0
           · simp (disch:=omega) [zak,zac]
             rfl
           · simp (disch:=omega) [zak,zaq,zac]
             rfl
        rcases zjX s.Keys[i].length (fun j hj=>(0≤s.Keys[i][j]∧s.Keys[i][j] < p.Parts[i].Options)∧∀ h:0 < j,(s.Keys[i][j - 1]'(by omega)) < s.Keys[i][j])
         (fun j=>zdA p s i j) (fun y=>y=zfq false) (zfq false) (fun h=>absurd h hg) (fun j hj _ hn=>⟨_,rfl,hno j hj hn⟩) (fun j hj y g hk=>by
          refine zmp p s _ _ ?_
          obtain ⟨g1,g2⟩:=g
          by_cases h0:0 < j
          · have g3:=g2 h0
            simp (disch:=omega) [zak,zaq,zac,w64_id,zcL h0,hk]
          · simp (disch:=omega) [zak,zaq,zac,w64_id,hk]) with ⟨_,h⟩ | ⟨_,y,rfl,h⟩
        · exact h
        · exact h
       refine zm0 p.Parts.length _ (fun i=>zi0 p s i) (fun b=>zfq b) ?_ ?_ ?_
       · exact zqz p s _ (by simp (disch:=omega) only [List.length_map,zaq]; rfl)
       · intro i hi hg
         have hi2:i < s.Withdrawn.length:=by omega
         refine zqz p s _ ?_
         by_cases h4:(0≤s.Withdrawn[i]∧s.Withdrawn[i]≤2)
         · have h3:=fun h=>hg ⟨h,h4⟩
           simp (disch:=omega) [zak,zaq,zac,innerNo i hi h3]
         · by_cases h5:s.Withdrawn[i] < 0
           · simp (disch:=omega) [zak,zac]
             rfl
           · simp (disch:=omega) [zak,zaq,zac]
             rfl
       · intro i hi y hg hk'
         have hi2:i < s.Withdrawn.length:=by omega
         have g2:=hg.2
         refine zqz p s _ ?_
         simp (disch:=omega) [zak,zaq,zac,inner i hi y hk' hg.1]
     · rw [zaz (p:=zdu p s) (fun h=>h2 h.2.2.1)]
       simp only [zax hp,h1,Bool.not_true,zai,bne_self_eq_false,show ((s.Withdrawn.length:Int) != p.Parts.length)=true by simpa using (by omega:¬ ((s.Withdrawn.length:Int)=p.Parts.length)),zap]
       rfl
   · rw [zaz (p:=zdu p s) (fun h=>h1 h.2.1)]
     simp only [zax hp,Bool.not_true,zai,show ((s.Keys.length:Int) != p.Parts.length)=true by simpa using (by omega:¬ ((s.Keys.length:Int)=p.Parts.length)),zap]
     rfl
 · rw [zaz hp,zaz (fun h=>hp h.1)]
   rfl
theorem zeq (n:Int):cw zk1 [I n] []=some (zo9 (dec (0≤n∧n≤31))):=by
 refine zDo n ?_
 simp only [zb1,decide_eq_true_eq]
 split
 · rw [show decide (n≤31)=dec (0≤n∧n≤31) from zdG (by simp only [decide_eq_true_eq]; omega)]; rfl
 · rw [zaz (by omega)]; rfl
theorem zvV (n:Int):cw zbF [I n] []=some (zjd (!dec (0≤n∧n≤31))):=
 zwK n (by rw [zeq,zyL]; rfl)
theorem zFY (l:List Int) (hl:l.length≤1000000):cw zfs [.sl 1 (List.map zaa l),.fn zbF []] []=some (zft (!dec (∀ n∈l,0≤n∧n≤31))):=by
 refine zrC l ?_
 have key:∃ r,cw zgH [.sl 1 (List.map zaa l),.fn zbF []] []=some (zda r)∧(0≤r↔¬ ∀ n∈l,0≤n∧n≤31):=by
  have H:=zjX l.length (fun j hj=>0≤l[j]∧l[j]≤31) (fun i=>zdQ l i) (fun y=>∃ r:Int,0≤r∧y=zda r) (zda (-1)) ?_ ?_ ?_
  · rcases H with ⟨h1,h2⟩ | ⟨⟨j,hj,h1⟩,y,⟨r,h2,rfl⟩,h3⟩
    · refine ⟨-1,zlm l h2,?_⟩
      have:=(znu (G:=fun n=>0≤n∧n≤31)).1 h1
      exact ⟨fun h=>by omega,fun h=>absurd this h⟩
    · exact ⟨r,zlm l h3,fun _ h=>h1 (h _ (List.getElem_mem hj)),fun _=>h2⟩
  · intro h
    exact zfH l _ (by simp (disch:=omega) [zaq] <;> rfl)
  · intro i hi _ hg
    refine ⟨_,⟨(i:Int),by omega,rfl⟩,zfH l _ ?_⟩
    simp (disch:=omega) [zak,zac,zvV,zaz hg]
    rfl
  · intro i hi y hg hk
    refine zfH l _ ?_
    simp (disch:=omega) [zak,zac,w64_id,zvV,zax hg,hk]
 obtain ⟨r,h1,h2⟩:=key
 rw [h1,zq4]
 rw [show decide (0≤r)=!dec (∀ n∈l,0≤n∧n≤31) by
  by_cases hc:∀ n∈l,0≤n∧n≤31
  · rw [zax hc]; simp only [Bool.not_true,decide_eq_false_iff_not]; exact fun h=>(h2.1 h) hc
  · rw [zaz hc]; simp only [Bool.not_false,decide_eq_true_eq]; exact h2.2 hc]
 rfl
def zkv (m:GMarker):Prop:=
 (1≤m.ID∧m.ID≤99)∧(-1≤m.Centre∧m.Centre≤99)∧(1≤m.Level∧m.Level≤3)∧(0≤m.Capacity∧m.Capacity≤60)∧(∀ n∈m.Papers,0≤n∧n≤31)
theorem zln (m:GMarker) (hl:m.Papers.length≤1000000):cw zla [.agg (zaO m)] []=some (zks (dec (zkv m))):=by
 refine zyC m ?_
 simp only [zb1,decide_eq_true_eq]
 repeat' split
 all_goals first
  | (rw [zaz (by unfold zkv; omega)]; rfl)
  | (rw [zFY _ hl,zoF,Bool.not_not,zfM (p:=∀ n∈m.Papers,0≤n∧n≤31) (q:=zkv m) ⟨fun h=>⟨by omega,by omega,by omega,by omega,h⟩,fun h=>h.2.2.2.2⟩]; rfl)
theorem zmu (l:List Int) (hl:l.length≤1000000):cw zqh [.sl 1 (List.map zaa l)] []=some (zml (dec (AscBy id l))):=by
 refine zER l ?_
 by_cases h1:1≤l.length
 · have h:=all_from 1 l.length h1 (fun j h1 hj=>l[j - 1] < l[j]) (fun i=>zjt l i) (fun b=>zml b) ?_ ?_ ?_
   · rw [show ((1:Nat):Int)=1 from rfl] at h
     rw [h]
     congr 2
     rw [← zsi]
     exact zfM ⟨fun h i hi h0=>h i h0 hi,fun h j h1 hj=>h j hj h1⟩
   · exact zjL _ _ (by simp (disch:=omega) [zaq] <;> rfl)
   · intro i h0 hi hg
     refine zjL _ _ ?_
     simp (disch:=omega) [zak,zac,w64_id,zcL h0]
     rfl
   · intro i h0 hi y hg hk
     refine zjL _ _ ?_
     simp (disch:=omega) [zak,zaq,zac,w64_id,zcL h0,hk]
 · rw [zax (p:=AscBy id l) (fun j hj=>by omega)]
   exact zjL _ _ (by simp (disch:=omega) [zaq] <;> rfl)
theorem zfc (a b c:Int):cw ze3 [I a,I b,I c] []=some (zya (dec (b≤a∧a≤c))):=by
 refine e_ref24_in a b c ?_
 simp only [zb1,decide_eq_true_eq]
 split
 · rw [show decide (a≤c)=dec (b≤a∧a≤c) from zdG (by simp only [decide_eq_true_eq]; omega)]; rfl
 · rw [zaz (by omega)]; rfl
def zp7 (l:List GMarker):Prop:=l.length≤16∧(∀ m∈l,zkv m∧AscBy id m.Papers)∧AscBy GMarker.ID l
theorem zG8 {l:List GMarker} (hl:l.length≤16):(∀ j (hj:j < l.length),(zkv l[j]∧AscBy id l[j].Papers)∧∀ h:0 < j,(l[j - 1]'(by omega)).ID < l[j].ID)↔zp7 l:=by
 unfold zp7
 rw [← zsi,← znu]
 exact ⟨fun h=>⟨hl,fun j hj=>(h j hj).1,fun j hj=>(h j hj).2⟩,fun h j hj=>⟨h.2.1 j hj,h.2.2 j hj⟩⟩
theorem zGa (l:List GMarker) (hs:∀ m∈l,m.Papers.length≤1000000):∃ e,cw zr8 [.sl 5 (List.map zaO l)] []=some (zno e)∧(e=0↔zp7 l):=by
 by_cases hl:l.length≤16
 · have H:=all_err l.length (fun j hj=>(zkv l[j]∧AscBy id l[j].Papers)∧∀ h:0 < j,(l[j - 1]'(by omega)).ID < l[j].ID) (fun i=>zhD l i) (fun e=>zno e) ?_ ?_ ?_
   · obtain ⟨e,h1,h2⟩:=H
     exact ⟨e,zxw l (by simp (disch:=omega) [zaq,h1]),h2.trans (zG8 hl)⟩
   · exact zhC _ _ (by simp (disch:=omega) [zaq] <;> rfl)
   · intro i hi hg
     have hp:=hs _ (List.getElem_mem hi)
     by_cases h1:zkv l[i]
     · by_cases h2:AscBy id l[i].Papers
       · have h0:0 < i:=by
          apply Nat.pos_of_ne_zero
          rintro rfl
          exact hg ⟨⟨h1,h2⟩,fun h=>absurd h (by omega)⟩
         have h3:¬ (l[i - 1].ID < l[i].ID):=fun h=>hg ⟨⟨h1,h2⟩,fun _=>h⟩
         refine ⟨43,by omega,zhC _ _ ?_⟩
         simp (disch:=omega) [zak,zac,w64_id,zcL h0,zln _ hp,zax h1,zmu _ hp,zax h2]
         rfl
       · refine ⟨43,by omega,zhC _ _ ?_⟩
         simp (disch:=omega) [zak,zac,zln _ hp,zax h1,zmu _ hp,zaz h2]
         rfl
     · refine ⟨2,by omega,zhC _ _ ?_⟩
       simp (disch:=omega) [zak,zac,zln _ hp,zaz h1]
       rfl
   · intro i hi y hg hk
     have hp:=hs _ (List.getElem_mem hi)
     obtain ⟨⟨h1,h2⟩,h3⟩:=hg
     refine zhC _ _ ?_
     by_cases h0:0 < i
     · have h4:=h3 h0
       simp (disch:=omega) [zak,zaq,zac,w64_id,zcL h0,zln _ hp,zax h1,zmu _ hp,zax h2,hk]
     · simp (disch:=omega) [zak,zaq,zac,w64_id,zln _ hp,zax h1,zmu _ hp,zax h2,hk]
 · refine ⟨3,zxw l ?_,by omega,fun h=>absurd h.1 hl⟩
   simp (disch:=omega) [zak]
   rfl
def zsd (x:GScript):Prop:=
 (0≤x.Paper∧x.Paper≤31)∧(0≤x.Candidate∧x.Candidate≤9999)∧(0≤x.Centre∧x.Centre≤99)∧(0≤x.Variant∧x.Variant≤31)∧x.Number=x.Paper*10000+x.Candidate∧x.Pages.length≤12
def zqd (l:List GScript):Prop:=l.length≤60∧(∀ x∈l,zsd x)∧AscBy GScript.Number l
theorem zzA {l:List GScript} (hl:l.length≤60):(∀ j (hj:j < l.length),zsd l[j]∧∀ h:0 < j,(l[j - 1]'(by omega)).Number < l[j].Number)↔zqd l:=by
 unfold zqd
 rw [← zsi,← znu]
 exact ⟨fun h=>⟨hl,fun j hj=>(h j hj).1,fun j hj=>(h j hj).2⟩,fun h j hj=>⟨h.2.1 j hj,h.2.2 j hj⟩⟩
theorem zxr (l:List GScript):∃ e,cw zka [.sl 7 (List.map zaw l)] []=some (zgg e)∧(e=0↔zqd l):=by
 by_cases hl:l.length≤60
 · have H:=all_err l.length (fun j hj=>zsd l[j]∧∀ h:0 < j,(l[j - 1]'(by omega)).Number < l[j].Number) (fun i=>zdV l i) (fun e=>zgg e) ?_ ?_ ?_
   · obtain ⟨e,h1,h2⟩:=H
     exact ⟨e,zpZ l (by simp (disch:=omega) [zaq,h1]),h2.trans (zzA hl)⟩
   · exact zc3 _ _ (by simp (disch:=omega) [zaq] <;> rfl)
   · intro i hi hg
     by_cases h1:zsd l[i]
     · have h0:0 < i:=by
        apply Nat.pos_of_ne_zero
        rintro rfl
        exact hg ⟨h1,fun h=>absurd h (by omega)⟩
       have h3:¬ (l[i - 1].Number < l[i].Number):=fun h=>hg ⟨h1,fun _=>h⟩
       refine ⟨43,by omega,zc3 _ _ ?_⟩
       obtain ⟨a1,a2,a3,a4,a5,a6⟩:=h1
       simp (disch:=omega) [zak,zaq,zac,w64_id,zcL h0,zeq,zax a1]
       rw [← a5]
       simp
       rfl
     · by_cases a1:0≤l[i].Paper∧l[i].Paper≤31
       · by_cases a2:(0≤l[i].Candidate∧l[i].Candidate≤9999)∧(0≤l[i].Centre∧l[i].Centre≤99)∧(0≤l[i].Variant∧l[i].Variant≤31)
         · refine ⟨1,by omega,zc3 _ _ ?_⟩
           simp (disch:=omega) [zak,zaq,zac,w64_id,zeq,zax a1]
           by_cases a3:l[i].Number=l[i].Paper*10000+l[i].Candidate
           · have a4:12 < (l[i].Pages.length:Int):=by
              apply Int.not_le.1
              intro h
              exact h1 ⟨a1,a2.1,a2.2.1,a2.2.2,a3,by omega⟩
             simp (disch:=omega) [a3,zak]
             rfl
           · simp [show (l[i].Number != l[i].Paper*10000+l[i].Candidate)=true by simpa using a3]
             rfl
         · refine ⟨2,by omega,zc3 _ _ ?_⟩
           simp (disch:=omega) [zak,zac,zeq,zax a1]
           simp only [zb1,decide_eq_true_eq]
           repeat' split
           all_goals first
            | rfl
            | omega
       · refine ⟨2,by omega,zc3 _ _ ?_⟩
         simp (disch:=omega) [zak,zac,zeq,zaz a1]
         rfl
   · intro i hi y hg hk
     obtain ⟨h1,h3⟩:=hg
     refine zc3 _ _ ?_
     obtain ⟨a1,a2,a3,a4,a5,a6⟩:=h1
     by_cases h0:0 < i
     · have h4:=h3 h0
       simp (disch:=omega) [zak,zaq,zac,w64_id,zcL h0,zeq,zax a1,← a5,hk]
     · simp (disch:=omega) [zak,zaq,zac,w64_id,zeq,zax a1,← a5,hk]
 · refine ⟨3,zpZ l ?_,by omega,fun h=>absurd h.1 hl⟩
   simp (disch:=omega) [zak]
   rfl
end Go.Proofs.YticojpmhlhfhlaaGreat
namespace Go.Proofs.YticojpmhlhfhlaaGreat
open Go.Ab
set_option linter.unusedSimpArgs false
theorem zHd (l:List GMarker) (hs:∀ m∈l,m.Papers.length≤1000000) (hok:zp7 l):cw ztp [.sl 5 (List.map zaO l)] []=some (zeo 0):=by
 obtain ⟨hl,hm,ha⟩:=hok
 refine zGX l ?_
 simp (disch:=omega) only [List.length_map,zaq]
 refine zaZ l (fun i r=>zio l i=some (zeo 0)) ?_ ?_
 · exact zvU _ _ (by simp (disch:=omega) [zaq] <;> rfl)
 · intro i hi r hr ih
   have hp:=hs _ (List.getElem_mem hi)
   obtain ⟨⟨a1,a2,a3,a4,a5⟩,a6⟩:=hm _ (List.getElem_mem hi)
   have last:∀ j:Nat,l[i].Papers.length≤j→zgt l i l[i] j=some (zeo 0):=by
    intro j hj
    refine zwe _ _ _ _ ?_
    by_cases h:0 < i
    · have:=zsi.2 ha i hi h
      simp (disch:=omega) [zak,zaq,zac,w64_id,zcL h,ih]
    · simp (disch:=omega) [zaq,w64_id,ih]
   have third:zgt l i l[i] 1=some (zeo 0):=by
    by_cases h1:1≤l[i].Papers.length
    · have H:=zjX (l[i].Papers.length - 1) (fun j hj=>l[i].Papers[j] < l[i].Papers[j+1]) (fun j=>zgt l i l[i] (j+1)) (fun _=>True) (zeo 0) (fun _=>by
        have:=last l[i].Papers.length (Nat.le_refl _)
        rw [show (((l[i].Papers.length - 1:Nat):Int)+1)=(l[i].Papers.length:Int) by omega]; exact this)
       (fun j hj _ hn=>absurd (a6 j (by omega)) hn)
       (fun j hj z hg hz=>by
        have hg':l[i].Papers[j] < l[i].Papers[j+1]:=hg
        refine zwe _ _ _ _ ?_
        have e1:((j:Int)+1).toNat=j+1:=by omega
        simp (disch:=omega) [zak,zaq,zac,w64_id,e1,hz])
      rcases H with ⟨_,h⟩ | ⟨⟨j,hj,hn⟩,_⟩
      · exact h
      · exact absurd (a6 j (by omega)) hn
    · have:=last 1 (by omega)
      simpa using this
   have second:ziV l i l[i] 0=some (zeo 0):=by
    refine zaZ l[i].Papers (fun j r=>ziV l i l[i] j=some (zeo 0)) ?_ ?_
    · refine zwc _ _ _ _ ?_
      simp (disch:=omega) [zaq,third]
    · intro j hj r hr ih2
      refine zwc _ _ _ _ ?_
      simp (disch:=omega) [zak,zac,w64_id,zfc,zax (a5 _ (List.getElem_mem hj)),ih2]
   refine zvU _ _ ?_
   simp (disch:=omega) [zak,zac,zfc,zax a1,zax a2,zax a3,zax a4,second]
theorem zyZ (l:List GScript):∃ e,cw zkw [.sl 7 (List.map zaw l)] []=some (zg0 e)∧(e=0↔zqd l):=by
 by_cases hl:l.length≤60
 · have H:=all_err l.length (fun j hj=>zsd l[j]∧∀ h:0 < j,(l[j - 1]'(by omega)).Number < l[j].Number) (fun i=>zef l i) (fun e=>zg0 e) ?_ ?_ ?_
   · obtain ⟨e,h1,h2⟩:=H
     exact ⟨e,zqH l (by simp (disch:=omega) [zaq,h1]),h2.trans (zzA hl)⟩
   · exact zbU _ _ (by simp (disch:=omega) [zaq] <;> rfl)
   · intro i hi hg
     by_cases a1:(0≤l[i].Paper∧l[i].Paper≤31)
     case neg =>
      refine ⟨2,by omega,zbU _ _ ?_⟩
      simp (disch:=omega) [zak,zac,zfc,zaz a1]
      rfl
     by_cases a2:(0≤l[i].Candidate∧l[i].Candidate≤9999)
     case neg =>
      refine ⟨2,by omega,zbU _ _ ?_⟩
      simp (disch:=omega) [zak,zac,zfc,zax a1,zaz a2]
      rfl
     by_cases a3:(0≤l[i].Centre∧l[i].Centre≤99)
     case neg =>
      refine ⟨2,by omega,zbU _ _ ?_⟩
      simp (disch:=omega) [zak,zac,zfc,zax a1,zax a2,zaz a3]
      rfl
     by_cases a4:(0≤l[i].Variant∧l[i].Variant≤31)
     case neg =>
      refine ⟨2,by omega,zbU _ _ ?_⟩
      simp (disch:=omega) [zak,zac,zfc,zax a1,zax a2,zax a3,zaz a4]
      rfl
     by_cases a5:l[i].Number=l[i].Paper*10000+l[i].Candidate
     case neg =>
      refine ⟨1,by omega,zbU _ _ ?_⟩
      simp (disch:=omega) [zak,zac,zfc,zax a1,zax a2,zax a3,zax a4,w64_id,show (l[i].Number != l[i].Paper*10000+l[i].Candidate)=true by simpa using a5]
      rfl
     by_cases a6:l[i].Pages.length≤12
     case neg =>
      refine ⟨1,by omega,zbU _ _ ?_⟩
      simp (disch:=omega) [zak,zac,zfc,zax a1,zax a2,zax a3,zax a4,w64_id,← a5]
      rfl
     have h1:zsd l[i]:=⟨a1,a2,a3,a4,a5,a6⟩
     have h0:0 < i:=by
      apply Nat.pos_of_ne_zero
      rintro rfl
      exact hg ⟨h1,fun h=>absurd h (by omega)⟩
     have h3:¬ (l[i - 1].Number < l[i].Number):=fun h=>hg ⟨h1,fun _=>h⟩
     refine ⟨43,by omega,zbU _ _ ?_⟩
     simp (disch:=omega) [zak,zaq,zac,w64_id,zcL h0,zfc,zax a1,zax a2,zax a3,zax a4,← a5]
     rfl
   · intro i hi y hg hk
     obtain ⟨h1,h3⟩:=hg
     refine zbU _ _ ?_
     obtain ⟨a1,a2,a3,a4,a5,a6⟩:=h1
     by_cases h0:0 < i
     · have h4:=h3 h0
       simp (disch:=omega) [zak,zaq,zac,w64_id,zcL h0,zfc,zax a1,zax a2,zax a3,zax a4,← a5,hk]
     · simp (disch:=omega) [zak,zaq,zac,w64_id,zfc,zax a1,zax a2,zax a3,zax a4,← a5,hk]
 · refine ⟨3,zqH l ?_,by omega,fun h=>absurd h.1 hl⟩
   simp (disch:=omega) [zak]
   rfl
def OkMon (r:GMonitorRule):Prop:=(0≤r.Part∧r.Part≤200)∧(0≤r.Total∧r.Total≤200)∧(1≤r.Window∧r.Window≤20)∧(1≤r.Fails∧r.Fails≤r.Window)
theorem c_isScore (n:Int):cw zjy [I n] []=some (zn3 (dec (0≤n∧n≤200))):=by
 refine zCp n ?_
 simp only [zb1,decide_eq_true_eq]
 split
 · rw [show decide (n≤200)=dec (0≤n∧n≤200) from zdG (by simp only [decide_eq_true_eq]; omega)]; rfl
 · rw [zaz (by omega)]; rfl
theorem zFb (r:GMonitorRule) (h:OkMon r):cw zqR [.agg (zba r)] []=some (zqT 0):=by
 obtain ⟨h1,h2,h3,h4⟩:=h
 refine zET r ?_
 simp (disch:=omega) [zaq,c_isScore,zax h1,zax h2]
 rfl
theorem ztB (r:GMonitorRule) (h:OkMon r):cw zlr [.agg (zba r)] []=some (ztt 0):=by
 obtain ⟨h1,h2,h3,h4⟩:=h
 refine zHA r ?_
 simp (disch:=omega) [zaq]
 rfl
theorem c_Contains (l:List Int) (n:Int) (hl:l.length≤1000000):cw zhh [.sl 1 (List.map zaa l),I n] []=some (zhb (dec (n∈l))):=by
 refine zuu l n ?_
 have key:=zhH l (fun x=>n == x) (fun i=>ze7 l n i) (fun o=>zjg (match o with | some (i,_)=>(i:Int) | none=>-1)) ?_ ?_ ?_
 · rw [zwW l n key,ztl]
   cases hf:fnd (fun x=>n == x) 0 l with
   | none =>
     rw [zaz (fun h=>by have:=zsl.1 hf n h; simp at this)]
     rfl
   | some q =>
     obtain ⟨i,x⟩:=q
     obtain ⟨h1,h2,_⟩:=fnd_at hf
     have:n=x:=by simpa using h2
     subst this
     rw [zax (List.mem_of_getElem? h1)]
     show some (B (decide (0≤(i:Int))),[])=_
     rw [show decide (0≤(i:Int))=true by simp]
     rfl
 · exact zhL _ _ _ (by simp (disch:=omega) [zaq] <;> rfl)
 · intro i hi h
   refine zhL _ _ _ ?_
   simp (disch:=omega) [zak,zac,h]
   rfl
 · intro i hi y h hk
   refine zhL _ _ _ ?_
   simp (disch:=omega) [zak,zac,w64_id,h,hk]
theorem c_Has (l:List Int) (n:Int) (hl:l.length≤1000000):cw zwL [.sl 1 (List.map zaa l),I n] []=some (zso (dec (n∈l))):=by
 refine zJO l n ?_
 have key:=any_bool l.length (fun j hj=>l[j]=n) (fun i=>zoO l n i) (fun b=>zso b) ?_ ?_ ?_
 · rw [key]
   congr 2
   refine zfM ⟨fun ⟨j,hj,h⟩=>h▸List.getElem_mem hj,fun h=>?_⟩
   obtain ⟨j,hj,rfl⟩:=List.mem_iff_getElem.1 h
   exact ⟨j,hj,rfl⟩
 · exact zth _ _ _ (by simp (disch:=omega) [zaq] <;> rfl)
 · intro i hi h
   refine zth _ _ _ ?_
   simp (disch:=omega) [zak,zac,h]
   rfl
 · intro i hi y h hk
   refine zth _ _ _ ?_
   simp (disch:=omega) [zak,zac,w64_id,show (l[i] == n)=false by simpa using h,hk]
noncomputable def accB (x:GPart) (ks:List Int) (v:Int):Bool:=if ks=[] then v == x.Key else dec (v∈ks)
theorem zAq (x:GPart) (ks:List Int) (v:Int) (hl:ks.length≤1000000):cw zpw [.agg (zav x),.sl 1 (List.map zaa ks),I v] []=some (zpK (accB x ks v)):=by
 refine zC5 x ks v ?_
 unfold accB
 by_cases h:ks=[]
 · rw [if_pos h,h]; rfl
 · rw [if_neg h]
   have:((ks.length:Int) == 0)=false:=by simpa using h
   simp only [List.length_map,this,zai,c_Contains _ _ hl,zrF]
   rfl
def OkAns (p:GPaper) (a:List Int):Prop:=a.length=p.Parts.length∧∀ (j:Nat) (x:GPart) (v:Int),p.Parts[j]?=some x→a[j]?=some v→x.Kind≠1→-2≤v∧v < x.Options
noncomputable def zcN (p:GPaper) (s:GScheme) (a:List Int) (j:Nat):Int:=
 match p.Parts[j]?,s.Keys[j]?,a[j]? with
 | some x,some ks,some v=>if x.Kind=1 then -2 else if accB x ks v=true then x.Max else if v=-1 then -1 else 0
 | _,_,_=>0
noncomputable def zdC (p:GPaper) (s:GScheme) (a:List Int):List Int:=(List.range p.Parts.length).map (zcN p s a)
theorem kind2 {x:GPart} (h:OkPart x):x.Kind=1∨x.Kind=2:=by unfold OkPart at h; omega
theorem zv2 (p:GPaper) (s:GScheme) (a:List Int) (hs:Short s):∃ r:List Int×Int,cw ziD [.agg (zas p),.agg (zaW s),.sl 1 (List.map zaa a)] []=some (ze5 r)∧(r.2=0↔zdu p s∧OkAns p a)∧(r.2=0→r.1=zdC p s a):=by
 by_cases hp:zdu p s
 case neg =>
  refine ⟨([],1),zqi p s a ?_,by simp [hp],by simp⟩
  simp only [znw p s hs,zmS,zaz hp]
  rfl
 obtain ⟨hP,hk,hw,hall⟩:=id hp
 have hpl:=hP.2.2.1
 by_cases ha:a.length=p.Parts.length
 case neg =>
  refine ⟨([],22),zqi p s a ?_,by simp [OkAns,ha],by simp⟩
  simp only [znw p s hs,zmS,zax hp,Bool.not_true,zai,List.length_map,show ((a.length:Int) != p.Parts.length)=true by simpa using (by omega:¬ ((a.length:Int)=p.Parts.length)),zap]
  rfl
 have start:∀ y,zdq p s a 0=some y→cw ziD [.agg (zas p),.agg (zaW s),.sl 1 (List.map zaa a)] []=some y:=by
  intro y hy
  refine zqi p s a ?_
  simp only [znw p s hs,zmS,zax hp,Bool.not_true,zai,List.length_map,ha,bne_self_eq_false,hy]
 have second:zdl p s a (List.map zaa (List.replicate p.Parts.length 0)) 0=some (ze5 (zdC p s a,0)):=by
  rw [← mkN_zero p.Parts.length (zcN p s a) 0]
  have:=zaZ p.Parts (fun i r=>zdl p s a (List.map zaa (mkN p.Parts.length (zcN p s a) 0 i.toNat)) i=some (ze5 (zdC p s a,0))) ?_ ?_
  · exact this
  · refine zuc _ _ _ _ _ ?_
    simp (disch:=omega) only [List.length_map,zaq,Int.toNat_natCast,mkN_all,List.length_replicate,List.length_range,zac,List.take_length,zdC.eq_1]
    rw [show List.take p.Parts.length (List.map zaa (List.map (zcN p s a) (List.range p.Parts.length)))=List.map zaa (List.map (zcN p s a) (List.range p.Parts.length)) from List.take_of_length_le (by simp)]
    rfl
  · intro i hi r hr ih
    have hi1:i < s.Keys.length:=by omega
    have hi2:i < a.length:=by omega
    have hkl:=hs _ (List.getElem_mem hi1)
    refine zuc _ _ _ _ _ ?_
    have hc:zcN p s a i=if p.Parts[i].Kind=1 then -2 else if accB p.Parts[i] s.Keys[i] a[i]=true then p.Parts[i].Max else if a[i]=-1 then -1 else 0:=by
     simp [zcN,hi,hi1,hi2]
    have e1:((i:Int)+1).toNat=i+1:=by omega
    rw [e1] at ih
    have hgi:(mkN p.Parts.length (zcN p s a) 0 i)[i]?=some 0:=zBy hi
    rcases kind2 (hP.2.2.2.1 _ (List.getElem_mem hi)) with h1 | h1
    · rw [if_pos h1] at hc
      simp (disch:=omega) [zak,zac,h1,w64_id,hgi,zc6,zxv hc.symm,-List.map_set,ih]
    · rw [if_neg (by omega)] at hc
      cases hb:accB p.Parts[i] s.Keys[i] a[i] with
      | true =>
        rw [if_pos hb] at hc
        simp (disch:=omega) [zak,zac,h1,w64_id,hgi,zc6,zxv hc.symm,-List.map_set,ih,zAq _ _ _ hkl,hb]
      | false =>
        rw [if_neg (by rw [hb]; simp)] at hc
        by_cases h2:a[i]=-1
        · rw [if_pos h2] at hc
          simp (disch:=omega) [zak,zac,h1,w64_id,hgi,zc6,zxv hc.symm,-List.map_set,ih,zAq _ _ _ hkl,hb,← h2]
          simp (disch:=omega) [h2,zc6,zxv hc.symm,-List.map_set,ih]
        · rw [if_neg h2] at hc
          simp (disch:=omega) [zak,zac,h1,w64_id,mkN_same hc,ih,zAq _ _ _ hkl,hb,show (a[i] == -1)=false by simpa using h2]
 have hfst:∀ j (hj:j < p.Parts.length),(p.Parts[j].Kind≠1→-2≤a[j]'(by omega)∧a[j]'(by omega) < p.Parts[j].Options)↔(p.Parts[j].Kind=2→-2≤a[j]'(by omega)∧a[j]'(by omega) < p.Parts[j].Options):=by
  intro j hj
  have:=kind2 (hP.2.2.2.1 _ (List.getElem_mem hj))
  omega
 have H:=zjX p.Parts.length (fun j hj=>p.Parts[j].Kind≠1→-2≤a[j]'(by omega)∧a[j]'(by omega) < p.Parts[j].Options) (fun i=>zdq p s a i) (fun y=>y=ze5 ([],2)) (ze5 (zdC p s a,0)) ?_ ?_ ?_
 · rcases H with ⟨h1,h2⟩ | ⟨⟨j,hj,h1⟩,y,rfl,h3⟩
   · refine ⟨_,start _ h2,⟨fun _=>⟨hp,ha,fun j x v q1 q2 q3=>?_⟩,fun _=>rfl⟩,fun _=>rfl⟩
     obtain ⟨hj,rfl⟩:=List.getElem?_eq_some_iff.1 q1
     obtain ⟨_,rfl⟩:=List.getElem?_eq_some_iff.1 q2
     exact h1 j hj q3
   · refine ⟨_,start _ h3,⟨fun h=>by simp at h,fun h=>?_⟩,fun h=>by simp at h⟩
     exact absurd (fun q3=>h.2.2 j _ _ (List.getElem?_eq_getElem hj) (List.getElem?_eq_getElem (by omega)) q3) h1
 · intro _
   refine znX _ _ _ _ ?_
   rw [← zxi] at second
   simp (disch:=omega) only [List.length_map,zaq,zac,zaC,Int.toNat_natCast,second]
 · intro i hi _ hn
   have hi2:i < a.length:=by omega
   refine ⟨_,rfl,znX _ _ _ _ ?_⟩
   rcases kind2 (hP.2.2.2.1 _ (List.getElem_mem hi)) with h1 | h1
   · exact absurd (fun h=>absurd h1 h) hn
   · have h2:¬ (-2≤a[i]∧a[i] < p.Parts[i].Options):=fun h=>hn (fun _=>h)
     have hop:2≤p.Parts[i].Options:=by have:=(hP.2.2.2.1 _ (List.getElem_mem hi)); unfold OkPart at this; omega
     have h3:a[i]≠-1:=fun h=>h2 (by omega)
     have h4:a[i]≠-2:=fun h=>h2 (by omega)
     by_cases h5:a[i] < 0
     · simp (disch:=omega) [zak,zac,h1,show (a[i] != -1)=true by simpa using h3,show (a[i] != -2)=true by simpa using h4]
       rfl
     · simp (disch:=omega) [zak,zaq,zac,h1,show (a[i] != -1)=true by simpa using h3,show (a[i] != -2)=true by simpa using h4]
       rfl
 · intro i hi y hg hk'
   have hi2:i < a.length:=by omega
   refine znX _ _ _ _ ?_
   rcases kind2 (hP.2.2.2.1 _ (List.getElem_mem hi)) with h1 | h1
   · simp (disch:=omega) [zak,zac,h1,w64_id,hk']
   · have h2:=hg (by omega)
     by_cases h3:a[i]=-1
     · simp (disch:=omega) [zak,zac,h1,w64_id,h3,hk']
     · by_cases h4:a[i]=-2
       · simp (disch:=omega) [zak,zac,h1,w64_id,h4,hk']
       · simp (disch:=omega) [zak,zaq,zac,h1,show (a[i] != -1)=true by simpa using h3,show (a[i] != -2)=true by simpa using h4,w64_id,hk']
theorem zE1 (p:GPaper) (s:GScheme) (hs:Short s) (hp:zdu p s) (j:Nat) (hj:j < p.Parts.length) (hj1:j < s.Keys.length) (h2:p.Parts[j].Kind=2) (v:Int) :
  cw zqE [.agg (zas p),.agg (zaW s),I j,I v] []=some (zql (accB p.Parts[j] s.Keys[j] v)):=by
 refine zFe p s j v ?_
 have hkl:=hs _ (List.getElem_mem hj1)
 unfold accB
 by_cases h:s.Keys[j]=[]
 · simp (disch:=omega) [zgG p s hs,zax hp,zaq,zac,h2,h]
   rfl
 · have hne:(((s.Keys[j]).length:Int) == 0)=false:=by simpa using h
   simp (disch:=omega) [zgG p s hs,zax hp,zaq,zac,h2,h,c_Has _ _ hkl]
   rw [hne,zai]
   rfl
theorem zw8 (p:GPaper) (s:GScheme) (a:List Int) (hs:Short s):∃ r:List Int×Int,cw zjW [.agg (zas p),.agg (zaW s),.sl 1 (List.map zaa a)] []=some (zkb r)∧(r.2=0↔zdu p s∧OkAns p a)∧(r.2=0→r.1=zdC p s a):=by
 by_cases hp:zdu p s
 case neg =>
  refine ⟨([],1),zrY p s a ?_,by simp [hp],by simp⟩
  simp only [zgG p s hs,zjv,zaz hp]
  rfl
 obtain ⟨hP,hk,hw,hall⟩:=id hp
 have hpl:=hP.2.2.1
 by_cases ha:a.length=p.Parts.length
 case neg =>
  refine ⟨([],22),zrY p s a ?_,by simp [OkAns,ha],by simp⟩
  simp only [zgG p s hs,zjv,zax hp,Bool.not_true,zai,List.length_map,show ((a.length:Int) != p.Parts.length)=true by simpa using (by omega:¬ ((a.length:Int)=p.Parts.length)),zap]
  rfl
 have start:∀ y,zes p s a (List.map zaa []) 0=some y→cw zjW [.agg (zas p),.agg (zaW s),.sl 1 (List.map zaa a)] []=some y:=by
  intro y hy
  refine zrY p s a ?_
  simp only [zgG p s hs,zjv,zax hp,Bool.not_true,zai,List.length_map,ha,bne_self_eq_false]
  exact hy
 have H:=zjX p.Parts.length (fun j hj=>p.Parts[j].Kind≠1→-2≤a[j]'(by omega)∧a[j]'(by omega) < p.Parts[j].Options) (fun i=>zes p s a (List.map zaa ((List.range i.toNat).map (zcN p s a))) i) (fun y=>y=zkb ([],2)) (zkb (zdC p s a,0)) ?_ ?_ ?_
 · rcases H with ⟨h1,h2⟩ | ⟨⟨j,hj,h1⟩,y,rfl,h3⟩
   · refine ⟨_,start _ h2,⟨fun _=>⟨hp,ha,fun j x v q1 q2 q3=>?_⟩,fun _=>rfl⟩,fun _=>rfl⟩
     obtain ⟨hj,rfl⟩:=List.getElem?_eq_some_iff.1 q1
     obtain ⟨_,rfl⟩:=List.getElem?_eq_some_iff.1 q2
     exact h1 j hj q3
   · refine ⟨_,start _ h3,⟨fun h=>by simp at h,fun h=>?_⟩,fun h=>by simp at h⟩
     exact absurd (fun q3=>h.2.2 j _ _ (List.getElem?_eq_getElem hj) (List.getElem?_eq_getElem (by omega)) q3) h1
 · intro _
   refine zpE _ _ _ _ _ ?_
   simp (disch:=omega) only [List.length_map,zaq,zac,Int.toNat_natCast,List.length_range]
   rw [show List.take p.Parts.length (List.map zaa (List.map (zcN p s a) (List.range p.Parts.length)))=List.map zaa (zdC p s a) from List.take_of_length_le (by simp)]
   rfl
 · intro i hi _ hn
   have hi2:i < a.length:=by omega
   refine ⟨_,rfl,zpE _ _ _ _ _ ?_⟩
   rcases kind2 (hP.2.2.2.1 _ (List.getElem_mem hi)) with h1 | h1
   · exact absurd (fun h=>absurd h1 h) hn
   · have h2:¬ (-2≤a[i]∧a[i] < p.Parts[i].Options):=fun h=>hn (fun _=>h)
     by_cases h5:a[i] < -2
     · simp (disch:=omega) [zak,zac,h1]
       rfl
     · simp (disch:=omega) [zak,zaq,zac,h1]
       rfl
 · intro i hi y hg hk'
   have hi1:i < s.Keys.length:=by omega
   have hi2:i < a.length:=by omega
   have e1:((i:Int)+1).toNat=i+1:=by omega
   have hc:zcN p s a i=if p.Parts[i].Kind=1 then -2 else if accB p.Parts[i] s.Keys[i] a[i]=true then p.Parts[i].Max else if a[i]=-1 then -1 else 0:=by
    simp [zcN,hi,hi1,hi2]
   simp only [e1,List.range_succ,List.map_append,List.map_cons,List.map_nil] at hk'
   have hx:=hP.2.2.2.1 _ (List.getElem_mem hi)
   refine zpE _ _ _ _ _ ?_
   rcases kind2 hx with h1 | h1
   · rw [hc,if_pos h1] at hk'
     simp (disch:=omega) only [List.length_map,List.length_range,List.length_append,List.length_cons,List.length_nil,zak,zac,zaC,Int.toNat_natCast,zdk,List.getElem?_eq_getElem hi,Option.bind_some,h1,beq_self_eq_true,zap,w64_id]
     exact hk'
   · rw [hc,if_neg (by omega)] at hk'
     have h2:=hg (by omega)
     have hacc:=zE1 p s hs hp i hi hi1 h1 a[i]
     have hk2:(p.Parts[i].Kind == 1)=false:=by rw [h1]; rfl
     have fin:∀ v:Int,v=(if accB p.Parts[i] s.Keys[i] a[i]=true then p.Parts[i].Max else if a[i]=-1 then -1 else 0)→zgk p s a (List.map zaa ((List.range i).map (zcN p s a))) i v=some y:=by
      intro v hv
      refine zxM _ _ _ _ _ _ ?_
      simp (disch:=omega) only [List.length_map,List.length_range,List.length_append,List.length_cons,List.length_nil,zac,zaC,w64_id]
      rw [hv]
      exact hk'
     have noacc:a[i]=-1→accB p.Parts[i] s.Keys[i] a[i]=false:=by
      intro h
      unfold accB
      have hks:=(hall i _ _ (s.Withdrawn[i]'(by omega)) (List.getElem?_eq_getElem hi) (List.getElem?_eq_getElem hi1) (List.getElem?_eq_getElem (by omega))).1
      split
      · have:0≤p.Parts[i].Key:=by unfold OkPart at hx; omega
        simp only [beq_eq_false_iff_ne]; omega
      · exact zaz (fun hm=>by have:=hks.1 _ hm; omega)
     have e16:∀ v:Int,zhV p s a (List.map zaa ((List.range i).map (zcN p s a))) i=some y∨a[i]≠-1:=by
      intro _
      by_cases h3:a[i]=-1
      · left
        refine zzR _ _ _ _ _ ?_
        simp (disch:=omega) only [List.length_map,List.length_range,List.length_append,List.length_cons,List.length_nil,zac,zaC,w64_id]
        rw [if_neg (by rw [noacc h3]; simp),if_pos h3] at hk'
        exact hk'
      · exact .inr h3
     simp (disch:=omega) only [List.length_map,zak,zaq,zac,Int.toNat_natCast,zdk,zbi,List.getElem?_eq_getElem hi,List.getElem?_eq_getElem hi2,Option.bind_some,hk2,zai,hacc,zz0]
     cases hb:accB p.Parts[i] s.Keys[i] a[i] with
     | true =>
       have h3:a[i]≠-1:=fun h=>by rw [noacc h] at hb; cases hb
       rw [zap]
       refine zzO _ _ _ _ _ _ ?_
       simp (disch:=omega) only [zac,Int.toNat_natCast,zbi,List.getElem?_eq_getElem hi2,Option.bind_some,show (a[i] == -1)=false by simpa using h3,zai]
       exact fin _ (by rw [if_pos hb])
     | false =>
       rw [zai]
       refine zxh _ _ _ _ _ ?_
       by_cases h3:a[i]=-1
       · simp (disch:=omega) only [zac,Int.toNat_natCast,zbi,List.getElem?_eq_getElem hi2,Option.bind_some,show (a[i] == -1)=true by simpa using h3,zap]
         exact (e16 0).resolve_right (fun h=>h h3)
       · simp (disch:=omega) only [zac,Int.toNat_natCast,zbi,List.getElem?_eq_getElem hi2,Option.bind_some,show (a[i] == -1)=false by simpa using h3,zai]
         exact fin _ (by rw [if_neg (by rw [hb]; simp),if_neg h3])
end Go.Proofs.YticojpmhlhfhlaaGreat
namespace Go.Proofs.YticojpmhlhfhlaaGreat
open Go.Ab
set_option linter.unusedSimpArgs false
def zKc:GScript:=⟨0,0,0,0,0,[],[]⟩
def zd0 (l:List GScript) (n:Int):Option GScript:=(fnd (fun x=>x.Number == n) 0 l).map (·.2)
def zhu (ps:List GPaper) (x:GScript):Option (Nat×GPaper):=fnd (fun p=>p.Code == x.Paper && p.Variant == x.Variant) 0 ps
def ixR:Option (Nat×GPaper)→Int×Bool
 | some (i,_)=>((i:Int),true)
 | none=>(0,false)
def scR:Option GScript→GScript×Bool
 | some x=>(x,true)
 | none=>(zKc,false)
theorem c_scriptOf (s:GSetup) (n:Int) (hl:s.Scripts.length≤1000000):cw zmG [.agg (zat s),I n] []=some (zi3 (scR (zd0 s.Scripts n))):=by
 refine zA2 s n ?_
 have key:=zhH s.Scripts (fun x=>x.Number == n) (fun i=>zg7 s n i) (fun o=>zi3 (scR (o.map (·.2)))) ?_ ?_ ?_
 · exact key
 · exact zkr _ _ _ (by simp (disch:=omega) [zaq] <;> rfl)
 · intro i hi h
   refine zkr _ _ _ ?_
   simp (disch:=omega) [zak,zac,h]
   rfl
 · intro i hi y h hk
   refine zkr _ _ _ ?_
   simp (disch:=omega) [zak,zac,w64_id,h,hk]
theorem zsc (l:List GScript) (n:Int) (hl:l.length≤1000000):cw zj1 [.sl 7 (List.map zaw l),I n] []=some (znp (scR (zd0 l n))):=by
 refine zGh l n ?_
 have key:=zhH l (fun x=>x.Number == n) (fun i=>zkQ l n i) (fun o=>znp (scR (o.map (·.2)))) ?_ ?_ ?_
 · exact key
 · exact zpz _ _ _ (by simp (disch:=omega) [zaq] <;> rfl)
 · intro i hi h
   refine zpz _ _ _ ?_
   simp (disch:=omega) [zak,zac,h]
   rfl
 · intro i hi y h hk
   refine zpz _ _ _ ?_
   simp (disch:=omega) [zak,zac,w64_id,h,hk]
theorem zGv (s:GSetup) (x:GScript) (hl:s.Papers.length≤1000000):cw zjB [.agg (zat s),.agg (zaw x)] []=some (zjP (ixR (zhu s.Papers x))):=by
 refine zCc s x ?_
 have key:=zhH s.Papers (fun p=>p.Code == x.Paper && p.Variant == x.Variant) (fun i=>zfB s x i) (fun o=>zjP (ixR o)) ?_ ?_ ?_
 · exact key
 · exact zl1 _ _ _ (by simp (disch:=omega) [zaq] <;> rfl)
 · intro i hi h
   refine zl1 _ _ _ ?_
   rw [Bool.and_eq_true] at h
   simp (disch:=omega) [zak,zac,h.1,h.2]
   rfl
 · intro i hi y h hk
   refine zl1 _ _ _ ?_
   cases h1:(s.Papers[i].Code == x.Paper) with
   | false=>simp (disch:=omega) [zak,zac,w64_id,h1,hk]
   | true =>
     rw [h1,Bool.true_and] at h
     simp (disch:=omega) [zak,zac,w64_id,h1,h,hk]
theorem ztK (ps:List GPaper) (x:GScript) (hl:ps.length≤1000000):cw zlA [.sl 3 (List.map zas ps),.agg (zaw x)] []=some (zoV (ixR (zhu ps x))):=by
 refine zHk ps x ?_
 have key:=zhH ps (fun p=>p.Code == x.Paper && p.Variant == x.Variant) (fun i=>ziw ps x i) (fun o=>zoV (ixR o)) ?_ ?_ ?_
 · exact key
 · exact zqv _ _ _ (by simp (disch:=omega) [zaq] <;> rfl)
 · intro i hi h
   refine zqv _ _ _ ?_
   rw [Bool.and_eq_true] at h
   simp (disch:=omega) [zak,zac,h.1,h.2]
   rfl
 · intro i hi y h hk
   refine zqv _ _ _ ?_
   cases h1:(ps[i].Code == x.Paper) with
   | false=>simp (disch:=omega) [zak,zac,w64_id,h1,hk]
   | true =>
     rw [h1,Bool.true_and] at h
     simp (disch:=omega) [zak,zac,w64_id,h1,h,hk]
def zgy (s:GSetup) (n:Int):Option (Nat×GPaper):=(zd0 s.Scripts n).bind (zhu s.Papers)
theorem zGD (s:GSetup) (n:Int) (h1:s.Scripts.length≤1000000) (h2:s.Papers.length≤1000000):cw zjO [.agg (zat s),I n] []=some (znZ (ixR (zgy s n))):=by
 refine zBZ s n ?_
 rw [c_scriptOf s n h1,zwv]
 unfold zgy
 cases zd0 s.Scripts n with
 | none=>rfl
 | some x =>
   simp only [scR,Bool.not_true,zai,zGv s x h2,zxe,Option.bind_some]
   rfl
theorem zms (s:GSetup) (n:Int) (h1:s.Scripts.length≤1000000) (h2:s.Papers.length≤1000000):cw ziP [.agg (zat s),I n] []=some (zq1 (ixR (zgy s n))):=by
 refine zFD s n ?_
 rw [zsc _ n h1,zm8]
 unfold zgy
 cases zd0 s.Scripts n with
 | none=>rfl
 | some x =>
   simp only [scR,Bool.not_true,zai,ztK _ x h2,zt3,Option.bind_some]
   rfl
def zpT (p:GPaper) (m:List Int):Prop:=m.length=p.Parts.length∧∀ (j:Nat) (x:GPart) (v:Int),p.Parts[j]?=some x→m[j]?=some v→0≤v∧v≤x.Max
theorem zI9 (p:GPaper) (m:List Int) (hl:p.Parts.length≤1000000) (h:zpT p m):cw zlg [.agg (zas p),.sl 1 (List.map zaa m)] []=some (zhg true):=by
 obtain ⟨h1,h2⟩:=h
 refine zyv p m ?_
 simp only [List.length_map,h1,bne_self_eq_false,zai]
 refine zaZ p.Parts (fun i r=>zfX p m i=some (zhg true)) ?_ ?_
 · exact zoE _ _ _ (by simp (disch:=omega) [zaq] <;> rfl)
 · intro i hi r hr ih
   have hi2:i < m.length:=by omega
   have:=h2 i _ _ (List.getElem?_eq_getElem hi) (List.getElem?_eq_getElem hi2)
   refine zoE _ _ _ ?_
   simp (disch:=omega) [zak,zaq,zac,w64_id,ih]
theorem zBl (p:GPaper) (m:List Int) (hl:p.Parts.length≤1000000) (h:zpT p m):cw zvw [.agg (zas p),.sl 1 (List.map zaa m)] []=some (zq8 true):=by
 obtain ⟨h1,h2⟩:=h
 refine zIn p m ?_
 simp only [List.length_map,h1,bne_self_eq_false,zai]
 refine zaZ m (fun i r=>znr p m i=some (zq8 true)) ?_ ?_
 · exact zw6 _ _ _ (by simp (disch:=omega) [zaq] <;> rfl)
 · intro i hi r hr ih
   have hi2:i < p.Parts.length:=by omega
   have:=h2 i _ _ (List.getElem?_eq_getElem hi2) (List.getElem?_eq_getElem hi)
   refine zw6 _ _ _ ?_
   simp (disch:=omega) [zak,zaq,zac,w64_id,ih]
structure OkSetup (s:GSetup):Prop where
 markers:zp7 s.Markers
 scripts:zqd s.Scripts
 papers:s.Papers.length≤32
 len:s.Schemes.length=s.Papers.length
 schemes:∀ (j:Nat) (p:GPaper) (c:GScheme),s.Papers[j]?=some p→s.Schemes[j]?=some c→zdu p c
 script:∀ x∈s.Scripts,∃ (k:Nat) (p:GPaper) (c:GScheme),zhu s.Papers x=some (k,p)∧s.Schemes[k]?=some c∧OkAns p x.Answers
 seeds:s.Seeds.length≤12
 asc:AscBy GSeed.Script s.Seeds
 seed:∀ x∈s.Seeds,∃ (k:Nat) (p:GPaper),zgy s x.Script=some (k,p)∧zpT p x.Marks
 monitor:OkMon s.Monitor
 short:∀ c∈s.Schemes,Short c
 short2:∀ m∈s.Markers,m.Papers.length≤1000000
theorem ziI {ps:List GPaper} {x:GScript} {k:Nat} {p:GPaper} (hk:zhu ps x=some (k,p)):ps[k]?=some p∧p.Code=x.Paper∧p.Variant=x.Variant:=by
 obtain ⟨h1,h2,_⟩:=fnd_at hk
 simp only [Bool.and_eq_true,beq_iff_eq] at h2
 exact ⟨h1,h2⟩
theorem zwV {l:List GScript} {n:Int} {x:GScript} (h:zd0 l n=some x):x∈l∧x.Number=n:=by
 unfold zd0 at h
 cases hf:fnd (fun x=>x.Number == n) 0 l with
 | none=>simp [hf] at h
 | some q =>
   obtain ⟨i,y⟩:=q
   rw [hf] at h
   simp only [Option.map_some,Option.some.injEq] at h
   subst h
   obtain ⟨h1,h2,_⟩:=fnd_at hf
   exact ⟨List.mem_of_getElem? h1,by simpa using h2⟩
theorem zkj {l:List GScript} (h:AscBy GScript.Number l) {x:GScript} (hx:x∈l):zd0 l x.Number=some x:=by
 obtain ⟨i,hi,rfl⟩:=List.mem_iff_getElem.1 hx
 unfold zd0
 rw [fnd_of (j:=i) (x:=l[i]) (List.getElem?_eq_getElem hi) (by simp) (fun k y hk hy=>by
  obtain ⟨hk',rfl⟩:=List.getElem?_eq_some_iff.1 hy
  have:=asc_lt h k i hi hk
  simp only [beq_eq_false_iff_ne]
  omega)]
 rfl
theorem zqq {s:GSetup} {n:Int} {k:Nat} {p:GPaper} (hk:zgy s n=some (k,p)):s.Papers[k]?=some p:=by
 unfold zgy at hk
 cases hx:zd0 s.Scripts n with
 | none=>simp [hx] at hk
 | some x=>rw [hx] at hk; exact (ziI hk).1
section
variable {s:GSetup} (h:OkSetup s)
include h
theorem OkSetup.okPaper {k:Nat} {p:GPaper} (hk:s.Papers[k]?=some p):zfh p:=by
 have hlt:=(List.getElem?_eq_some_iff.1 hk).1
 have:=h.len
 exact (h.schemes k p _ hk (List.getElem?_eq_getElem (by omega))).1
theorem zHh:cw zke [.agg (zat s)] []=some (zgi true):=by
 have hp:=h.papers
 have hl:=h.len
 refine zxp s ?_
 simp (disch:=omega) only [List.length_map,zaq,hl,bne_self_eq_false,zai]
 refine zaZ s.Papers (fun i r=>zfv s i=some (zgi true)) ?_ ?_
 · exact znF _ _ (by simp (disch:=omega) [zaq] <;> rfl)
 · intro i hi r hr ih
   have hi2:i < s.Schemes.length:=by omega
   have hv:=h.schemes i _ _ (List.getElem?_eq_getElem hi) (List.getElem?_eq_getElem hi2)
   refine znF _ _ ?_
   simp (disch:=omega) [zak,zac,w64_id,znw _ _ (h.short _ (List.getElem_mem hi2)),zax hv,ih]
theorem zFZ:cw zjb [.agg (zat s)] []=some (zfS true):=by
 have hp:=h.papers
 have hl:=h.len
 have hsl:=h.scripts.1
 refine zwZ s ?_
 refine zaZ s.Scripts (fun i r=>zeY s i=some (zfS true)) ?_ ?_
 · exact zm3 _ _ (by simp (disch:=omega) [zaq] <;> rfl)
 · intro i hi r hr ih
   obtain ⟨k,p,c,q1,q2,q3⟩:=h.script _ (List.getElem_mem hi)
   have hpk:=(ziI q1).1
   obtain ⟨w,hw,hw1,hw2⟩:=zv2 p c s.Scripts[i].Answers (h.short _ (List.mem_of_getElem? q2))
   have hw0:w.2=0:=hw1.2 ⟨h.schemes k p c hpk q2,q3⟩
   refine zm3 _ _ ?_
   simp (disch:=omega) [zak,zac,w64_id,zGv s _ (by omega),q1,ixR,hpk,q2,hw,hw0,ih]
theorem zIK:cw zkS [.agg (zat s)] []=some (ze1 true):=by
 have hp:=h.papers
 have hl:=h.seeds
 have hsl:=h.scripts.1
 refine zyj s ?_
 simp (disch:=omega) only [List.length_map,zaq]
 refine zaZ s.Seeds (fun i r=>zf0 s i=some (ze1 true)) ?_ ?_
 · exact zos _ _ (by simp (disch:=omega) [zaq] <;> rfl)
 · intro i hi r hr ih
   obtain ⟨k,p,q1,q2⟩:=h.seed _ (List.getElem_mem hi)
   have hpk:=zqq q1
   have hpl:=(h.okPaper hpk).2.2.1
   have rest:zeN s i s.Seeds[i]=some (ze1 true):=by
    refine zug _ _ _ ?_
    simp (disch:=omega) [zac,w64_id,zGD s _ (by omega) (by omega),q1,ixR,hpk,zI9 _ _ (by omega) q2,ih]
   refine zos _ _ ?_
   by_cases h0:0 < i
   · have:=zsi.2 h.asc i hi h0
     simp (disch:=omega) [zak,zaq,zac,w64_id,zcL h0,rest]
   · simp (disch:=omega) [zak,zaq,zac,rest]
theorem zvZ:cw zmn [.agg (zat s)] []=some (zrd 0):=by
 obtain ⟨e1,h1,h2⟩:=zGa s.Markers h.short2
 obtain ⟨e2,h3,h4⟩:=zxr s.Scripts
 have g1:=h2.2 h.markers
 have g2:=h4.2 h.scripts
 subst g1 g2
 refine zEF s ?_
 simp only [h1,h3,zA8,zuh,zHh h,zFZ h,zIK h,zFb _ h.monitor,zus,ztH,zvj,zzY,bne_self_eq_false,Bool.not_true,zai]
 rfl
theorem ztC:cw zlx [.agg (zat s)] []=some (zen 0):=by
 obtain ⟨e2,h3,h4⟩:=zyZ s.Scripts
 have g2:=h4.2 h.scripts
 subst g2
 have hp:=h.papers
 have hl:=h.len
 have hsd:=h.seeds
 have hsl:=h.scripts.1
 have third:zgA s 0=some (zen 0):=by
  refine zaZ s.Seeds (fun i r=>zgA s i=some (zen 0)) ?_ ?_
  · exact zwl _ _ (by simp (disch:=omega) [zaq] <;> rfl)
  · intro i hi r hr ih
    obtain ⟨k,p,q1,q2⟩:=h.seed _ (List.getElem_mem hi)
    have hpk:=zqq q1
    have hpl:=(h.okPaper hpk).2.2.1
    refine zwl _ _ ?_
    by_cases h0:0 < i
    · have:=zsi.2 h.asc i hi h0
      simp (disch:=omega) [zak,zaq,zac,w64_id,zcL h0,zms s _ (by omega) (by omega),q1,ixR,hpk,zBl _ _ (by omega) q2,ih]
    · simp (disch:=omega) [zak,zaq,zac,w64_id,zms s _ (by omega) (by omega),q1,ixR,hpk,zBl _ _ (by omega) q2,ih]
 have second:ziC s 0=some (zen 0):=by
  refine zaZ s.Scripts (fun i r=>ziC s i=some (zen 0)) ?_ ?_
  · exact zvY _ _ (by simp (disch:=omega) [zaq,third])
  · intro i hi r hr ih
    obtain ⟨k,p,c,q1,q2,q3⟩:=h.script _ (List.getElem_mem hi)
    have hpk:=(ziI q1).1
    obtain ⟨w,hw,hw1,hw2⟩:=zw8 p c s.Scripts[i].Answers (h.short _ (List.mem_of_getElem? q2))
    have hw0:w.2=0:=hw1.2 ⟨h.schemes k p c hpk q2,q3⟩
    refine zvY _ _ ?_
    simp (disch:=omega) [zak,zac,w64_id,ztK _ _ (show s.Papers.length≤1000000 by omega),q1,ixR,hpk,q2,hw,hw0,ih]
 have first:ziN s 0=some (zen 0):=by
  refine zaZ s.Papers (fun i r=>ziN s i=some (zen 0)) ?_ ?_
  · exact zvT _ _ (by simp (disch:=omega) [zaq,second])
  · intro i hi r hr ih
    have hi2:i < s.Schemes.length:=by omega
    have hv:=h.schemes i _ _ (List.getElem?_eq_getElem hi) (List.getElem?_eq_getElem hi2)
    refine zvT _ _ ?_
    simp (disch:=omega) [zak,zac,w64_id,zgG _ _ (h.short _ (List.getElem_mem hi2)),zax hv,ih]
 refine zHu s ?_
 simp (disch:=omega) [zHd _ h.short2 h.markers,h3,ztB _ h.monitor,hl,zaq,first]
end
end Go.Proofs.YticojpmhlhfhlaaGreat
