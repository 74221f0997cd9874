/- The two sorts: of events and of marks that count. -/
import Derived.Test.YtikogkgdkdmljaaGreatJ3
import Derived.Test.YtikogkgdkdmljaaGreatK5
import Derived.Test.YtikogkgdkdmljaaGreatJ2
import Derived.Test.YtikogkgdkdmljaaGreatXAnn
import Derived.Test.YtikogkgdkdmljaaGreatAb10
import Derived.Control
set_option linter.unusedSimpArgs false
set_option linter.unusedVariables false
noncomputable section
namespace Go.Proofs.YtikogkgdkdmljaaGreat
open Go.Ab
def sgG:SX.Sg:={ D:=zb1,z:=8,ty:=zaO,fc:=zeb,inh:=⟨0,0,0,0,0,⟨0,0,0⟩⟩,so:=zjx,pi:=zgu,is:=ziy,pd:=zk1,hs:=zkM,bp:=zix,cp:=zjy,rr:=zi3,pe:=zh2,pa:=zke,sd:=zkN,ma:=zh1,md:=zlk,o2:=zll }
instance:Nonempty (SX.Lw sgG):=⟨⟨fun _ _ h=>SX.cwQ sgG.so [] h,fun _ _ _ _ _ _ _ _ h=>SX.ptQ [20,17,15,10] h,fun _ _ _ _ _ _ _ _ h=>SX.ptQ [20,17,15,10] h,fun _ _ _ _ _ _ _ _ h=>SX.ptQ [20,17,15,10] h,fun _ _ _ _ _ _ _ _ _ h=>SX.ptQ [20,17,15,10] h,fun _ _ _ _ _ _ _ _ _ _ h=>SX.ptQ [20,17,15,10] h,fun _ _ _ _ _ _ _ _ _ h=>SX.ptQ [20,17,15,10] h,fun _ _ _ _ _ _ _ _ _ h=>SX.ptQ [20,17,15,10] h,fun _ _ _ _ _ _ _ _ _ h=>SX.ptQ [20,17,15,10] h,fun _ _ _ _ _ h=>SX.cwQ sgG.pd [20,17,15,10] h,fun _ _ _ _ _ _ h=>SX.ptQ [] h,fun _ _ _ _ _ _ _ h=>SX.ptQ [] h,fun _ _ _ _ h=>SX.cwQ sgG.is [] h,fun _ _ _ _ _ _ h=>SX.ptQ [] h,fun _ _ _ _ _ h=>SX.ptQ [] h,fun _ _ _ _ h=>SX.cwQ sgG.hs [] h,fun _ _ _ _ _ _ _ _ h=>SX.ptQ [10] h,fun _ _ _ _ _ _ _ _ h=>SX.ptQ [10] h,fun _ _ _ _ _ _ _ _ h=>SX.ptQ [10] h,fun _ _ _ _ h=>SX.cwQ sgG.bp [10] h,fun _ _ _ _ _ h=>SX.ptQ [11] h,fun _ _ _ _ h=>SX.ptQ [11] h,fun _ _ _ _ h=>SX.cwQ sgG.cp [11] h,fun _ _ _ _ _ h=>SX.ptQ [] h,fun _ _ _ _ h=>SX.cwQ sgG.rr [] h,fun _ _ _ _ _ _ _ h=>SX.ptQ [7] h,fun _ _ _ _ _ _ _ h=>SX.ptQ [7] h,fun _ _ _ _ _ _ _ h=>SX.ptQ [7] h,fun _ _ _ _ _ _ _ h=>SX.ptQ [7] h,fun _ _ _ _ _ _ _ _ h=>SX.ptQ [7] h,fun _ _ _ _ _ _ _ _ h=>SX.ptQ [7] h,fun _ _ _ _ h=>SX.cwQ sgG.pi [7] h,fun _ _ _ _ _ _ h=>SX.ptQ [7] h,fun _ _ _ _ _ _ h=>SX.ptQ [7] h,fun _ _ _ _ _ _ h=>SX.ptQ [7] h,fun _ _ _ _ _ _ h=>SX.ptQ [7] h,fun _ _ _ _ _ _ h=>SX.ptQ [7] h,fun _ _ _ _ _ h=>SX.cwQ sgG.pe [7] h,fun _ _ _ _ _ _ _ _ _ _ h=>SX.ptQ [17,7] h,fun _ _ _ _ _ _ _ _ _ _ h=>SX.ptQ [17,7] h,fun _ _ _ _ _ _ _ _ _ _ _ h=>SX.ptQ [17,7] h,fun _ _ _ _ _ _ _ _ _ _ _ h=>SX.ptQ [17,7] h,fun _ _ _ _ _ _ h=>SX.ptQ [17,7] h,fun _ _ _ _ _ _ h=>SX.ptQ [17,7] h,fun _ _ _ _ _ _ h=>SX.ptQ [17,7] h,fun _ _ _ _ _ _ h=>SX.ptQ [17,7] h,fun _ _ _ _ _ _ h=>SX.ptQ [17,7] h,fun _ _ _ _ _ h=>SX.cwQ sgG.pa [17,7] h,fun _ _ _ _ _ _ h=>SX.ptQ [5] h,fun _ _ _ _ _ _ h=>SX.ptQ [5] h,fun _ _ _ _ _ _ h=>SX.ptQ [5] h,fun _ _ _ _ _ h=>SX.cwQ sgG.sd [5] h,fun _ _ _ _ h=>SX.cwQ sgG.ma [] h,fun _ _ _ _ _ _ h=>SX.cwQ sgG.md [] h,fun _ _ _ _ _ h=>SX.cwQ sgG.o2 [] h⟩⟩
def sgE:SX.Sg:={ D:=zaB,z:=9,ty:=zac,fc:=zer,inh:=⟨⟨0,0,0⟩,0,0,0,0,0,[]⟩,so:=zgE,pi:=zfR,is:=zht,pd:=zjz,hs:=zi2,bp:=zhs,cp:=zhP,rr:=zhB,pe:=zha,pa:=ziz,sd:=zi4,ma:=zg9,md:=zjC,o2:=zjD }
instance:Nonempty (SX.Lw sgE):=⟨⟨fun _ _ h=>SX.cwQ sgE.so [] h,fun _ _ _ _ _ _ _ _ h=>SX.ptQ [20,17,15,10] h,fun _ _ _ _ _ _ _ _ h=>SX.ptQ [20,17,15,10] h,fun _ _ _ _ _ _ _ _ h=>SX.ptQ [20,17,15,10] h,fun _ _ _ _ _ _ _ _ _ h=>SX.ptQ [20,17,15,10] h,fun _ _ _ _ _ _ _ _ _ _ h=>SX.ptQ [20,17,15,10] h,fun _ _ _ _ _ _ _ _ _ h=>SX.ptQ [20,17,15,10] h,fun _ _ _ _ _ _ _ _ _ h=>SX.ptQ [20,17,15,10] h,fun _ _ _ _ _ _ _ _ _ h=>SX.ptQ [20,17,15,10] h,fun _ _ _ _ _ h=>SX.cwQ sgE.pd [20,17,15,10] h,fun _ _ _ _ _ _ h=>SX.ptQ [] h,fun _ _ _ _ _ _ _ h=>SX.ptQ [] h,fun _ _ _ _ h=>SX.cwQ sgE.is [] h,fun _ _ _ _ _ _ h=>SX.ptQ [] h,fun _ _ _ _ _ h=>SX.ptQ [] h,fun _ _ _ _ h=>SX.cwQ sgE.hs [] h,fun _ _ _ _ _ _ _ _ h=>SX.ptQ [10] h,fun _ _ _ _ _ _ _ _ h=>SX.ptQ [10] h,fun _ _ _ _ _ _ _ _ h=>SX.ptQ [10] h,fun _ _ _ _ h=>SX.cwQ sgE.bp [10] h,fun _ _ _ _ _ h=>SX.ptQ [11] h,fun _ _ _ _ h=>SX.ptQ [11] h,fun _ _ _ _ h=>SX.cwQ sgE.cp [11] h,fun _ _ _ _ _ h=>SX.ptQ [] h,fun _ _ _ _ h=>SX.cwQ sgE.rr [] h,fun _ _ _ _ _ _ _ h=>SX.ptQ [7] h,fun _ _ _ _ _ _ _ h=>SX.ptQ [7] h,fun _ _ _ _ _ _ _ h=>SX.ptQ [7] h,fun _ _ _ _ _ _ _ h=>SX.ptQ [7] h,fun _ _ _ _ _ _ _ _ h=>SX.ptQ [7] h,fun _ _ _ _ _ _ _ _ h=>SX.ptQ [7] h,fun _ _ _ _ h=>SX.cwQ sgE.pi [7] h,fun _ _ _ _ _ _ h=>SX.ptQ [7] h,fun _ _ _ _ _ _ h=>SX.ptQ [7] h,fun _ _ _ _ _ _ h=>SX.ptQ [7] h,fun _ _ _ _ _ _ h=>SX.ptQ [7] h,fun _ _ _ _ _ _ h=>SX.ptQ [7] h,fun _ _ _ _ _ h=>SX.cwQ sgE.pe [7] h,fun _ _ _ _ _ _ _ _ _ _ h=>SX.ptQ [17,7] h,fun _ _ _ _ _ _ _ _ _ _ h=>SX.ptQ [17,7] h,fun _ _ _ _ _ _ _ _ _ _ _ h=>SX.ptQ [17,7] h,fun _ _ _ _ _ _ _ _ _ _ _ h=>SX.ptQ [17,7] h,fun _ _ _ _ _ _ h=>SX.ptQ [17,7] h,fun _ _ _ _ _ _ h=>SX.ptQ [17,7] h,fun _ _ _ _ _ _ h=>SX.ptQ [17,7] h,fun _ _ _ _ _ _ h=>SX.ptQ [17,7] h,fun _ _ _ _ _ _ h=>SX.ptQ [17,7] h,fun _ _ _ _ _ h=>SX.cwQ sgE.pa [17,7] h,fun _ _ _ _ _ _ h=>SX.ptQ [5] h,fun _ _ _ _ _ _ h=>SX.ptQ [5] h,fun _ _ _ _ _ _ h=>SX.ptQ [5] h,fun _ _ _ _ _ h=>SX.cwQ sgE.sd [5] h,fun _ _ _ _ h=>SX.cwQ sgE.ma [] h,fun _ _ _ _ _ _ h=>SX.cwQ sgE.md [] h,fun _ _ _ _ _ h=>SX.cwQ sgE.o2 [] h⟩⟩
set_option maxRecDepth 10000
section
variable {α:Type} {lt:α→α→Bool}
theorem zwd (x:α):∀ l:List α,List.Perm (ins lt x l) (x :: l)
 | []=>zrB _
 | y :: r=>by
   unfold ins; split
   · exact zrB _
   · exact ((zwd x r).cons y).trans (List.Perm.swap x y r)
theorem zid:∀ l:List α,List.Perm (isort lt l) l
 | []=>zrB _
 | x :: r=>(zwd x (isort lt r)).trans ((zid r).cons x)
theorem zxl (ht:∀ a b c,lt b a=false→lt c b=false→lt c a=false) (ha:∀ a b,lt a b=true→lt b a=false) (x:α):∀ l:List α,l.Pairwise (fun a b=>lt b a=false)→(ins lt x l).Pairwise (fun a b=>lt b a=false)
 | [],_=>by simp [ins]
 | y :: r,h=>by
   unfold ins; split
   · rename_i hxy; refine zjI.2 ⟨fun z hz=>?_,h⟩; rcases za1.1 hz with rfl | hz
     · exact ha _ _ hxy
     · exact ht _ _ _ (ha _ _ hxy) ((zjI.1 h).1 z hz)
   · rename_i hxy; obtain ⟨h1,h2⟩:=zjI.1 h; refine zjI.2 ⟨fun z hz=>?_,zxl ht ha x r h2⟩; rcases za1.1 ((zwd x r).mem_iff.1 hz) with rfl | hz
     · simpa using hxy
     · exact h1 z hz
theorem zpo (ht:∀ a b c,lt b a=false→lt c b=false→lt c a=false) (ha:∀ a b,lt a b=true→lt b a=false):∀ l:List α,(isort lt l).Pairwise (fun a b=>lt b a=false)
 | []=>List.Pairwise.nil
 | x :: r=>zxl ht ha x _ (zpo ht ha r)
theorem zli:∀ {l1 l2:List α},List.Perm l1 l2→l1.Pairwise (fun a b=>lt b a=false)→l2.Pairwise (fun a b=>lt b a=false)→(∀ a∈l1,∀ b∈l1,lt a b=false→lt b a=false→a=b)→l1=l2
 | [],l2,hp,_,_,_=>(List.nil_perm.1 hp).symm
 | x :: r,l2,hp,h1,h2,ha=>by
   cases l2 with
   | nil=>exact absurd hp.length_eq (by simp)
   | cons y s =>
     obtain ⟨h3,h4⟩:=zjI.1 h1; obtain ⟨h5,h6⟩:=zjI.1 h2
     have hxy:x=y:=by
      have m1:y∈x :: r:=hp.mem_iff.2 (by simp); have m2:x∈y :: s:=hp.mem_iff.1 (by simp); rcases za1.1 m1 with e | m1
      · exact e.symm
      rcases za1.1 m2 with e | m2
      · exact e
      exact ha x (by simp) y (by simp [m1]) (h5 x m2) (h3 y m1)
     subst hxy; rw [zli ((List.perm_cons x).1 hp) h4 h6 (fun a ha' b hb=>ha a (by simp [ha']) b (by simp [hb]))]
end
theorem zhi {a b:zaM} (h:lessS a b=true):lessS b a=false:=by
 rcases zvc a b with q | q
 · rw [h] at q; cases q
 · exact q
theorem lessS_eq {a b:zaM} (h1:lessS a b=false) (h2:lessS b a=false):a=b:=by
 unfold lessS at h1 h2; obtain ⟨t,s,q⟩:=a; obtain ⟨t',s',q'⟩:=b; simp only at h1 h2
 have:t=t':=by
  by_cases h:t=t'
  · exact h
  · simp [h,Ne.symm h] at h1 h2; omega
 subst this
 have:s=s':=by
  by_cases h:s=s'
  · exact h
  · simp [h,Ne.symm h] at h1 h2; omega
 subst this; simp at h1 h2; have:q=q':=by omega
 rw [this]
theorem zzB (s:zaM):cw znX [.agg (zbI s)] []=some (zam (stampB s)):=by
 refine zyW s ?_; unfold stampB; simp only [zgB,decide_eq_true_eq]
 repeat' split
 all_goals first
  | (rw [decide_eq_false (by omega)]; rfl)
  | (rw [show decide ((0≤s.Time∧s.Time≤1000000)∧(0≤s.Source∧s.Source≤99)∧(0≤s.Seq∧s.Seq≤9999))=decide (s.Seq≤9999) from decide_eq_decide.2 (by omega)]; rfl)
theorem zsD (n:Int):cw zb9 [I n] []=some (zam (!decide (0≤n∧n≤1152921504606846976))):=by
 refine zq8 n ?_; rw [zaV]; split
 · rw [show decide (0≤n∧n≤1152921504606846976)=false from decide_eq_false (by omega)]; rfl
 · rw [show (!decide (0≤n∧n≤1152921504606846976))=decide (1152921504606846976 < n) by rw [← decide_not]; exact decide_eq_decide.2 (by omega)]
   rfl
theorem c_idx_v (l:List Int) (hl:l.length≤1000000):cw zbY [.sl 1 (List.map zak l),.fn zb9 []] []=some (zbf (match fnd (fun n=>!decide (0≤n∧n≤1152921504606846976)) 0 l with | some (i,_)=>(i:Int) | none=>-1)):=by
 refine zmX l ?_; refine zfK l (fun n=>!decide (0≤n∧n≤1152921504606846976)) (fun i=>zdA l i) (fun o=>zbf (match o with | some (i,_)=>(i:Int) | none=>-1)) ?_ ?_ ?_
 · exact zeO _ _ (by simp (disch:=omega) only [zap,zaT]; rfl)
 · intro i hi h; refine zeO _ _ ?_; simp (disch:=omega) only [zap,zaF,zan,za4,zcO,zaC hi,zaY,zsD,zai]; rw [h,zaI]; rfl
 · intro i hi y h hk; refine zeO _ _ ?_; simp (disch:=omega) only [zap,zaF,zan,za4,zcO,zaC hi,zaY,zsD,zai]; rw [h,zaw,w6Q]; exact hk
theorem zzx (l:List Int) (hl:l.length≤1000000):cw zbJ [.sl 1 (List.map zak l),.fn zb9 []] []=some (zam (l.any fun n=>!decide (0≤n∧n≤1152921504606846976))):=by
 refine zl0 l ?_; rw [c_idx_v l hl,za0,← zuk]
 cases fnd (fun n=>!decide (0≤n∧n≤1152921504606846976)) 0 l with
 | none=>rfl
 | some q=>simp; rfl
theorem zAd {α:Type} (p:α→Bool) (l:List α):(!l.any fun n=>!p n)=l.all p:=by
 induction l with
 | nil=>rfl
 | cons x r ih=>simp only [List.any_cons,List.all_cons,Bool.not_or,Bool.not_not,ih]
theorem zAl (e:zab) (hp:e.Pages.length≤1000000):cw zi9 [.agg (zaa e)] []=some (zam (decide (1≤e.Stamp.Source∧(0≤e.Part∧e.Part≤23)∧(-1≤e.Value∧e.Value≤40)∧e.Marker=0) && decide (e.Pages.length≤12) && e.Pages.all (fun n=>decide (0≤n∧n≤1152921504606846976)))):=by
 refine zsZ e ?_; rw [zzx _ hp,zai,zAd,zap]; simp only [zgB,decide_eq_true_eq,bne_iff_ne,ne_eq]; by_cases hl:12 < e.Pages.length
 · rw [if_pos (show (12:Int) < (e.Pages.length:Int) by omega),show decide (e.Pages.length≤12)=false from decide_eq_false (by omega),zoZ,zjE]
   repeat' split
   all_goals rfl
 · rw [if_neg (show ¬ (12:Int) < (e.Pages.length:Int) by omega),show decide (e.Pages.length≤12)=true from decide_eq_true (by omega),zoY]
   repeat' split
   all_goals first
    | (rw [decide_eq_false (by omega),zjE]; rfl)
    | (rw [decide_eq_true (by omega),zhb]; rfl)
theorem c_Valid (e:zab) (hp:e.Pages.length≤1000000):cw zji [.agg (zaa e)] []=some (zam (eventB e)):=by
 refine zw7 e ?_; rw [zzB,zai,zAl e hp,zai,zap]; unfold eventB
 cases hs:stampB e.Stamp with
 | false=>simp only [zcx,zaI,zjE]; rfl
 | true =>
 simp only [zbO,zaw,zhb,zgB,decide_eq_true_eq,beq_iff_eq,zcn,if_false]; by_cases h1:0≤e.Script∧e.Script≤319999
 case neg =>
  rw [decide_eq_false h1,zjE,zjE,zjE]; by_cases h2:e.Script < 0
  · rw [if_pos h2]; rfl
  · rw [if_neg h2,if_pos (show 319999 < e.Script by omega)]; rfl
 rw [if_neg (show ¬ e.Script < 0 by omega),if_neg (show ¬ 319999 < e.Script by omega),decide_eq_true h1,zhb]; by_cases k0:e.Kind=0
 · rw [if_pos k0]; have:decide ((e.Kind=0∧1≤e.Stamp.Source∧(0≤e.Part∧e.Part≤23)∧(-1≤e.Value∧e.Value≤40)∧e.Marker=0)∨(e.Kind=1∧e.Stamp.Source=0∧e.Script=0∧e.Part=0∧e.Value=0∧(1≤e.Marker∧e.Marker≤99)∧e.Pages.length=0)∨(e.Kind=2∧e.Stamp.Source=0∧e.Value=0∧e.Marker=0∧(-1≤e.Part∧e.Part≤23)∧e.Pages.length=0))=decide (1≤e.Stamp.Source∧(0≤e.Part∧e.Part≤23)∧(-1≤e.Value∧e.Value≤40)∧e.Marker=0):=decide_eq_decide.2 (by omega); rw [this]; generalize decide (1≤e.Stamp.Source∧(0≤e.Part∧e.Part≤23)∧(-1≤e.Value∧e.Value≤40)∧e.Marker=0)=x; generalize decide (e.Pages.length≤12)=y; generalize (e.Pages.all fun n=>decide (0≤n∧n≤1152921504606846976))=z; cases x <;> cases y <;> cases z <;> rfl
 rw [if_neg k0]; by_cases hl:e.Pages.length=0
 · have hnil:e.Pages=[]:=zue hl; rw [hnil]; simp only [zrv,List.all_nil,zoY,and_true]; rw [show decide ((0:Nat)≤12)=true from rfl,zhb]
   repeat' split
   all_goals first
    | (rw [decide_eq_false (by omega)]; rfl)
    | (rw [decide_eq_true (by omega)]; rfl)
 · have:decide ((e.Kind=0∧1≤e.Stamp.Source∧(0≤e.Part∧e.Part≤23)∧(-1≤e.Value∧e.Value≤40)∧e.Marker=0) ∨
    (e.Kind=1∧e.Stamp.Source=0∧e.Script=0∧e.Part=0∧e.Value=0∧(1≤e.Marker∧e.Marker≤99)∧e.Pages.length=0)∨(e.Kind=2∧e.Stamp.Source=0∧e.Value=0∧e.Marker=0∧(-1≤e.Part∧e.Part≤23)∧e.Pages.length=0))=false:=decide_eq_false (by omega)
   rw [this,zoZ,show ((e.Pages.length:Int) == 0)=false by simp; intro h; rw [h] at hl; exact hl rfl]
   repeat' split
   all_goals rfl
theorem c_Same (a b:zab) (hl:a.Pages.length≤1000000):cw zkn [.agg (zaa a),.agg (zaa b)] []=some (zam (decide (a=b))):=by
 refine zxT a b ?_; rw [c_Equal _ _ hl,zai,zw0]; obtain ⟨⟨t,s,q⟩,k,sc,pa,v,m,pg⟩:=a; obtain ⟨⟨t',s',q'⟩,k',sc',pa',v',m',pg'⟩:=b; simp only [zgB,zbK,beq_iff_eq,and_true,zab.mk.injEq,zaM.mk.injEq]
 repeat' split
 all_goals first
  | (rw [decide_eq_false (by simp_all)]; rfl)
  | (rename_i h1 h2 h3 h4 h5 h6
     rw [show decide ((t=t'∧s=s'∧q=q')∧k=k'∧sc=sc'∧pa=pa'∧v=v'∧m=m'∧pg=pg')=decide (pg=pg') from decide_eq_decide.2 (by simp_all)]
     rfl)
theorem c_clone (e:zab) (hl:e.Pages.length≤1000000):cw zgL [.agg (zaa e)] []=some (zku e):=by refine zw8 e ?_; rw [c_CloneI ci_ok _ hl,ziB,cPQ,zcN (by omega)]; rfl
theorem zyQ (a b:zab):cw zer [.agg (zaa a),.agg (zaa b)] []=some (zbf (cmpS a.Stamp b.Stamp)):=by refine zq7 a b ?_; rw [zqX,za0]; rfl
theorem zmh {l:List zab} {m:zdx} {i:Nat} {e:zab} (hm:∀ p∈m,0≤p.2.first∧p.2.first < (i:Int)):∀ p∈zd2 l m i e,0≤p.2.first∧p.2.first < ((i+1:Nat):Int):=by
 intro p hp; have up:p∈m→0≤p.2.first∧p.2.first < ((i+1:Nat):Int):=fun h=>by have:=hm p h; omega
 unfold zd2 at hp; split at hp
 · split at hp
   · rcases zlw hp with rfl | h
     · simp; omega
     · exact up h
   · rename_i g hg; have:=hm _ (zj2 hg); rcases zlw hp with rfl | h
     · simp at this ⊢; omega
     · exact up h
 · exact up hp
theorem zAw (l:List zab) (hl:l.length≤1000000) (hp:∀ e∈l,e.Pages.length≤1000000):∀ (n i:Nat) (m:zdx),i+n=l.length→(∀ p∈m,0≤p.2.first∧p.2.first < (i:Int))→zc7 l (List.map zbv m) i=some (zdH (zcU l (l.drop i) i m,l)):=by
 intro n
 induction n with
 | zero=>intro i m hi hm; refine znR _ _ _ ?_; rw [zap,zaT (by omega),zjG (by omega)]; rfl
 | succ n ih =>
   intro i m hi hm; have hlt:i < l.length:=by omega
   have hpe:=hp _ (zbg hlt)
   have IH:∀ m':zdx,zd2 l m i l[i]=m'→zc7 l (List.map zbv m') ((i+1:Nat):Int)=some (zdH (zcU l (l.drop i) i m,l)):=by intro m' hm'; rw [zf8 hlt]; unfold zcU; rw [hm']; refine ih (i+1) m' (by omega) ?_; rw [← hm']; exact zmh hm
   refine znR _ _ _ ?_; rw [zaF (by simp; omega),cPQ,zan (by simp; omega),zb5,za4,zdf,zaC hlt,zaY,c_Valid _ hpe,zai,w6Q,show ((i:Int)+1)=((i+1:Nat):Int) by omega]; unfold zd2 at IH
   cases hv:eventB l[i] with
   | false=>rw [zcx,zaI]; exact IH m (by rw [hv]; rfl)
   | true =>
     rw [zbO,zaw,znD l[i] (y:=zgZ (l[i].Stamp.Source,l[i].Stamp.Seq)) rfl,zk5]; rw [show (AV.agg (zd0.enc (l[i].Stamp.Source,l[i].Stamp.Seq)))=.agg (zcu (l[i].Stamp.Source,l[i].Stamp.Seq)) from rfl,zjp]; rw [hv] at IH; simp only [if_true] at IH
     cases hf:mfind (l[i].Stamp.Source,l[i].Stamp.Seq) m with
     | none=>rw [hf] at IH; simp only [zrz,zcx,zaI,Option.getD_none]; rw [zcT]; exact IH _ rfl
     | some g =>
       rw [hf] at IH; have hg:=hm _ (zj2 hf); simp only at hg; have hgl:g.first.toNat < l.length:=by omega
       simp only [zmH,zbO,zaw,ziP]; rw [zan hg.1,zan (by simp; omega),zb5,zdf,zaC hgl,zaY,c_Same _ _ (hp _ (zbg hgl)),zai]; by_cases he:l[g.first.toNat]=l[i]
       · rw [decide_eq_true he,zbO,zaw,zcT]; exact IH _ (by simp only [zaC hgl,he,if_true])
       · rw [decide_eq_false he,zcx,zaI,zcT]; exact IH _ (by simp only [zaC hgl,zat,he,if_false])
theorem c_groups (l:List zab) (hl:l.length≤1000000) (hp:∀ e∈l,e.Pages.length≤1000000):cw zcP [.row 1000 9 0 (List.map zaa l).length] [(1000,⟨9,zac,List.map zaa l,false⟩)]=some (zdH (zbT l,l)):=by refine zv8 l ?_; have:=zAw l hl hp l.length 0 [] (by omega) (by simp); rw [zoD] at this; exact this
theorem zy2 (l:List zab) (hl:l.length≤1000000) (hp:∀ e∈l,e.Pages.length≤1000000):∀ (n i:Nat) (m:zdx),i+n=l.length→(∀ p∈m,0≤p.2.first∧p.2.first < (i:Int))→zcK l (List.map zbv m) i=some (zc8 (zcU l (l.drop i) i m)):=by
 intro n
 induction n with
 | zero=>intro i m hi hm; refine zmt _ _ _ ?_; rw [zap,zaT (by omega),zjG (by omega)]; rfl
 | succ n ih =>
   intro i m hi hm; have hlt:i < l.length:=by omega
   have hpe:=hp _ (zbg hlt)
   have IH:∀ m':zdx,zd2 l m i l[i]=m'→zcK l (List.map zbv m') ((i+1:Nat):Int)=some (zc8 (zcU l (l.drop i) i m)):=by intro m' hm'; rw [zf8 hlt]; unfold zcU; rw [hm']; refine ih (i+1) m' (by omega) ?_; rw [← hm']; exact zmh hm
   refine zmt _ _ _ ?_; rw [zaF (by simp; omega),cPQ,za4,zdf,zaC hlt,zaY,c_Valid _ hpe,zai,w6Q,show ((i:Int)+1)=((i+1:Nat):Int) by omega]; unfold zd2 at IH
   cases hv:eventB l[i] with
   | false=>rw [zcx,zaI]; exact IH m (by rw [hv]; rfl)
   | true =>
     rw [zbO,zaw,znD l[i] (y:=zgZ (l[i].Stamp.Source,l[i].Stamp.Seq)) rfl,zk5]; rw [show (AV.agg (zd0.enc (l[i].Stamp.Source,l[i].Stamp.Seq)))=.agg (zcu (l[i].Stamp.Source,l[i].Stamp.Seq)) from rfl,zjp]; rw [hv] at IH; simp only [if_true] at IH
     cases hf:mfind (l[i].Stamp.Source,l[i].Stamp.Seq) m with
     | none=>rw [hf] at IH; simp only [zrz,zcx,zaI,Option.getD_none]; rw [zcT]; exact IH _ rfl
     | some g =>
       rw [hf] at IH; have hg:=hm _ (zj2 hf); simp only at hg; have hgl:g.first.toNat < l.length:=by omega
       simp only [zmH,zbO,zaw,ziP]; rw [zan hg.1,zdf,zaC hgl,zaY,c_Same _ _ (hp _ (zbg hgl)),zai]; by_cases he:l[g.first.toNat]=l[i]
       · rw [decide_eq_true he,zbO,zaw,zcT]; exact IH _ (by simp only [zaC hgl,he,if_true])
       · rw [decide_eq_false he,zcx,zaI,zcT]; exact IH _ (by simp only [zaC hgl,zat,he,if_false])
theorem c_groups_d (l:List zab) (hl:l.length≤1000000) (hp:∀ e∈l,e.Pages.length≤1000000):cw zcP [.sl 9 (List.map zaa l)] []=some (zc8 (zbT l)):=by refine ztC l ?_; have:=zy2 l hl hp l.length 0 [] (by omega) (by simp); rw [zoD] at this; exact this
theorem zpl {l:List zab}:∀ {r:List zab} {i:Nat} {m:zdx},(∀ p∈m,0≤p.2.first∧p.2.first < (i:Int))→∀ p∈zcU l r i m,0≤p.2.first∧p.2.first < ((i+r.length:Nat):Int)
 | [],i,m,h,p,hp=>by simpa using h p hp
 | e :: r,i,m,h,p,hp=>by have:=zpl (zmh h) p hp; simp only [zf5] at this ⊢; omega
theorem zzO (l:List zab):∀ p∈zbT l,0≤p.2.first∧p.2.first < (l.length:Int):=fun p hp=>by have:=zpl (l:=l) (r:=l) (i:=0) (m:=[]) (by simp) p hp; simpa using this
theorem zsf {κ ν:Type} [DecidableEq κ] {k:κ} {v:ν}:∀ {l:List (κ×ν)},(mput k v l).length≤l.length+1
 | []=>by simp [mput]
 | p :: r=>by
   unfold mput; split
   · simp
   · have:=zsf (k:=k) (v:=v) (l:=r); simp only [zf5]; omega
theorem zy1 {l:List zab} {m:zdx} {i:Nat} {e:zab}:(zd2 l m i e).length≤m.length+1:=by
 unfold zd2; split
 · split
   · exact zsf
   · exact zsf
 · omega
theorem zrc {l:List zab}:∀ {r:List zab} {i:Nat} {m:zdx},(zcU l r i m).length≤m.length+r.length
 | [],i,m=>by simp [zcU]
 | e :: r,i,m=>by have h1:=zrc (l:=l) (r:=r) (i:=i+1) (m:=zd2 l m i e); have h2:=zy1 (l:=l) (m:=m) (i:=i) (e:=e); unfold zcU; simp only [zf5]; omega
theorem zxj (l:List zab):(zbT l).length≤l.length:=by have:=zrc (l:=l) (r:=l) (i:=0) (m:=[]); rw [zrv,zb5] at this; exact this
theorem ztV {κ ν:Type} [DecidableEq κ] {k:κ} {v:ν} {l:List (κ×ν)} (h:(l.map (·.1)).Nodup):((mput k v l).map (·.1)).Nodup∧∀ x,x∈(mput k v l).map (·.1)→x=k∨x∈l.map (·.1):=by
 induction l with
 | nil=>simp [mput]
 | cons p r ih =>
   obtain ⟨h1,h2⟩:=zfD.1 h; unfold mput; split
   · rename_i hk; refine ⟨by simpa [← hk] using h,fun x hx=>?_⟩; simp only [zco,za1] at hx ⊢; rcases hx with h | h
     · exact .inl h
     · exact .inr (.inr h)
   · rename_i hk; obtain ⟨i1,i2⟩:=ih h2; refine ⟨zfD.2 ⟨fun hm=>?_,i1⟩,fun x hx=>?_⟩
     · rcases i2 _ hm with h | h
       · exact hk h
       · exact h1 h
     · simp only [zco,za1] at hx ⊢; rcases hx with h | h
       · exact .inr (.inl h)
       · rcases i2 x h with h | h
         · exact .inl h
         · exact .inr (.inr h)
def Keyed (l:List zab) (m:zdx):Prop:=(m.map (·.1)).Nodup∧∀ p∈m,∃ e,l[p.2.first.toNat]?=some e∧(e.Stamp.Source,e.Stamp.Seq)=p.1∧eventB e=true
theorem zxi {l:List zab} {m:zdx} {i:Nat} {e:zab} (h:Keyed l m) (he:l[i]?=some e):Keyed l (zd2 l m i e):=by
 unfold zd2; split
 · rename_i hv; split
   · refine ⟨(ztV h.1).1,fun p hp=>?_⟩; rcases zlw hp with rfl | hp
     · exact ⟨e,by simpa using he,rfl,hv⟩
     · exact h.2 p hp
   · rename_i g hg; refine ⟨(ztV h.1).1,fun p hp=>?_⟩; rcases zlw hp with rfl | hp
     · obtain ⟨e',h1,h2,h3⟩:=h.2 _ (zj2 hg); exact ⟨e',h1,h2,h3⟩
     · exact h.2 p hp
 · exact h
theorem zpm {l:List zab}:∀ {r:List zab} {i:Nat} {m:zdx},Keyed l m→l.drop i=r→Keyed l (zcU l r i m)
 | [],i,m,h,_=>h
 | e :: r,i,m,h,hd=>by
   unfold zcU
   have he:l[i]?=some e:=by have:=congrArg (·[0]?) hd; simpa using this
   refine zpm (zxi h he) ?_; have:=congrArg (List.drop 1) hd; simpa [List.drop_drop] using this
theorem zpn (l:List zab):Keyed l (zbT l):=zpm ⟨by simp,by simp⟩ (by simp)
theorem zsF {l:List zab} {m:zdx} (h:Keyed l m):(m.filterMap (pickG l)).Pairwise (fun a b=>(a.Stamp.Source,a.Stamp.Seq)≠(b.Stamp.Source,b.Stamp.Seq))∧∀ e∈m.filterMap (pickG l),eventB e=true∧e∈l:=by
 constructor
 · rw [List.pairwise_filterMap]; have hn:=h.1; rw [List.Nodup,List.pairwise_map] at hn; refine List.Pairwise.imp_of_mem ?_ hn; intro a b ha hb hab x hx y hy; obtain ⟨e,h1,h2,_⟩:=h.2 a ha; obtain ⟨f,h3,h4,_⟩:=h.2 b hb
   have e1:x=e:=by
    unfold pickG at hx; split at hx
    · cases hx
    · rw [h1] at hx; injection hx with hx; exact hx.symm
   have e2:y=f:=by
    unfold pickG at hy; split at hy
    · cases hy
    · rw [h3] at hy; injection hy with hy; exact hy.symm
   subst e1 e2; rw [h2,h4]; exact hab
 · intro x hx; obtain ⟨p,hp,hpx⟩:=zug.1 hx; obtain ⟨e,h1,_,h3⟩:=h.2 p hp; unfold pickG at hpx; split at hpx
   · cases hpx
   · rw [h1] at hpx; injection hpx with hpx; subst hpx; exact ⟨h3,zbP h1⟩
theorem keep_mem {l:List zab} {e:zab} (h:e∈keepS l):eventB e=true∧e∈l:=(zsF (zpn l)).2 e h
theorem keep_ids (l:List zab):(keepS l).Pairwise (fun a b=>(a.Stamp.Source,a.Stamp.Seq)≠(b.Stamp.Source,b.Stamp.Seq)):=(zsF (zpn l)).1
theorem zzV {α:Type} {f:α→Int×Int} {l:List α} (h:l.Pairwise (fun a b=>f a≠f b)) {a b:α} (ha:a∈l) (hb:b∈l) (e:f a=f b):a=b:=by
 induction l with
 | nil=>cases ha
 | cons x r ih =>
   obtain ⟨h1,h2⟩:=zjI.1 h; rcases za1.1 ha with ea | ha'
   · rcases za1.1 hb with eb | hb'
     · rw [ea,eb]
     · rw [ea] at e; exact absurd e (h1 b hb')
   · rcases za1.1 hb with eb | hb'
     · rw [eb] at e; exact absurd e.symm (h1 a ha')
     · exact ih h2 ha' hb'
theorem keep_inj {l:List zab} {a b:zab} (ha:a∈keepS l) (hb:b∈keepS l) (e:a.Stamp=b.Stamp):a=b:=zzV (f:=fun x=>(x.Stamp.Source,x.Stamp.Seq)) (keep_ids l) ha hb (by simp only [e])
theorem zts (l:List zab):(canonS l).Pairwise (fun a b=>lessS b.Stamp a.Stamp=false):=
 zpo (lt:=fun a b:zab=>lessS a.Stamp b.Stamp) (fun _ _ _ h1 h2=>zqs h1 h2) (fun _ _ h=>zhi h) _
theorem zee (l:List zab):List.Perm (canonS l) (keepS l):=zid _
theorem canon_of {l r:List zab} (hp:List.Perm r (keepS l)) (hs:r.Pairwise (fun a b=>lessS b.Stamp a.Stamp=false)):r=canonS l:=
 zli (lt:=fun a b:zab=>lessS a.Stamp b.Stamp) (hp.trans (zee l).symm) hs (zts l) (fun _ ha _ hb h1 h2=>keep_inj (hp.mem_iff.1 ha) (hp.mem_iff.1 hb) (lessS_eq h1 h2))
theorem swoE:Go.Sort.SWO (fun a b:zab=>lessS a.Stamp b.Stamp) where
 irrefl:=fun x=>by rcases zvc x.Stamp x.Stamp with h | h <;> exact h
 trans:=fun x y z h1 h2=>by
  cases h:lessS x.Stamp z.Stamp with
  | true=>rfl
  | false=>have h3:=zqs (zhi h2) h; rw [h1] at h3; cases h3
 ntrans:=fun x y z h1 h2=>zqs h2 h1
theorem cmpE:SX.Cmp (S:=sgE) (fun a b:zab=>lessS a.Stamp b.Stamp) (fun _=>True) where
 ans:=fun x y _ _=>⟨_,zyQ x y,cmpS_neg _ _⟩
theorem cnLegs (b:Bool) {l:List zab} (h:FewEv l):CnLegs b l where
 len:=h.1
 glen:=by have:=zxj l; have:=h.1; omega
 few:=by have:=h.2.1; omega
 cGroups:=by
  cases b with
  | true=>exact c_groups l (by have:=h.1; omega) h.2.2
  | false=>exact c_groups_d l (by have:=h.1; omega) h.2.2
 first:=zzO l
 cSort:=fun ev hp=>by
  have hl:ev.length < 256:=by have:=hp.length_eq; have:=h.2.1; omega
  obtain ⟨l',h1,h2,h3⟩:=SX.c_SortFunc (S:=sgE) cmpE swoE ev (fun _ _=>trivial) hl; rw [canon_of (h2.trans hp) h3] at h1; exact h1
 perm:=zee l
 cClone:=fun e he=>c_clone e (h.2.2 e (keep_mem ((zee l).mem_iff.1 he)).2)
set_option maxRecDepth 100000
theorem f0 (b:Bool) (s:zay) (l:List zab):tReg zaQ zT 0 ⟨[(0,AV.agg [AV.sl 5 (List.map zaR s.Markers),AV.sl 7 (List.map zaS s.Scripts),AV.sl 3 (List.map zaL s.Papers),AV.sl 2 (List.map zbX s.Schemes),AV.sl 2 (List.map zbU s.Seeds),I s.Monitor.Part,I s.Monitor.Total,I s.Monitor.Window,I s.Monitor.Fails]),(1,frA b 1001 l)],frM b 1001 l⟩=(some ⟨[(1,frA b 1001 l),(2,AV.loc 2 9 0 0),(4,AV.loc 4 2 0 0)],[(2,⟨9,zaz,[zau s],true⟩),(4,⟨2,zav,[[AV.v (.slice none 0 0),AV.v (.slice none 0 0)]],true⟩)]++frM b 1001 l⟩):=by cases b <;> kernel_rfl
theorem f1 (b:Bool) (s:zay) (l:List zab):tReg zaQ zT 1 ⟨[(1,frA b 1001 l),(2,AV.loc 2 9 0 0),(4,AV.loc 4 2 0 0)],[(2,⟨9,zaz,[zau s],true⟩),(4,⟨2,zav,[[AV.v (.slice none 0 0),AV.v (.slice none 0 0)]],true⟩)]++frM b 1001 l⟩=(callD zaK (cw zgJ [AV.agg (zau s)] []) fun (r0:Int)=>some ⟨[(1,frA b 1001 l),(2,AV.loc 2 9 0 0),(4,AV.loc 4 2 0 0),(17,B (r0 != 0))],[(2,⟨9,zaz,[zau s],true⟩),(4,⟨2,zav,[[AV.v (.slice none 0 0),AV.v (.slice none 0 0)]],true⟩)]++frM b 1001 l⟩):=by cases b <;> kernel_rfl
theorem f4 (b:Bool) (s:zay) (l:List zab) (ev:List zab) (c:Int):tReg zaQ zT 4 ⟨[(2,AV.loc 2 9 0 0),(4,AV.loc 4 2 0 0),(6,AV.sl 9 (List.map zaa ev)),(7,I c)],[(2,⟨9,zaz,[zau s],true⟩),(4,⟨2,zav,[[AV.v (.slice none 0 0),AV.v (.slice none 0 0)]],true⟩)]++frM b 1001 l⟩=(some ⟨[(2,AV.loc 2 9 0 0),(4,AV.loc 4 2 0 0),(6,AV.sl 9 (List.map zaa ev)),(7,I c),(25,B (c != 0))],[(2,⟨9,zaz,[zau s],true⟩),(4,⟨2,zav,[[AV.v (.slice none 0 0),AV.v (.slice none 0 0)]],true⟩)]++frM b 1001 l⟩):=by cases b <;> kernel_rfl
theorem f6 (b:Bool) (s:zay) (l:List zab) (ev:List zab):tReg zaQ zT 6 ⟨[(2,AV.loc 2 9 0 0),(4,AV.loc 4 2 0 0),(6,AV.sl 9 (List.map zaa ev))],[(2,⟨9,zaz,[zau s],true⟩),(4,⟨2,zav,[[AV.v (.slice none 0 0),AV.v (.slice none 0 0)]],true⟩)]++frM b 1001 l⟩=(callD zhM (cw zcH [AV.agg (zau s),AV.sl 9 (List.map zaa ev)] []) fun (r0:List (Option zaf)×List (zar×zaM))=>some ⟨[(4,AV.loc 4 2 0 0),(8,AV.fa 1 (List.map nDp r0.fst)),(9,AV.mp (List.map zal r0.snd))],[(4,⟨2,zav,[[AV.v (.slice none 0 0),AV.v (.slice none 0 0)]],true⟩)]++frM b 1001 l⟩):=by cases b <;> kernel_rfl
theorem f7 (b:Bool) (l:List zab) (ds:List (Option zaf)) (R:List (zar×zaM)):tReg zaQ zT 7 ⟨[(4,AV.loc 4 2 0 0),(8,AV.fa 1 (List.map nDp ds)),(9,AV.mp (List.map zal R))],[(4,⟨2,zav,[[AV.v (.slice none 0 0),AV.v (.slice none 0 0)]],true⟩)]++frM b 1001 l⟩=(some ⟨[(4,AV.loc 4 2 0 0),(8,AV.fa 1 (List.map nDp ds)),(9,AV.mp (List.map zal R)),(10,AV.loc 10 2 0 0)],[(4,⟨2,zav,[[AV.v (.slice none 0 0),AV.v (.slice none 0 0)]],true⟩),(10,⟨2,zav,[[AV.row 301 8 0 0,AV.row 302 12 0 0]],true⟩),(301,⟨8,zaO,[],false⟩),(302,⟨12,zas,[],false⟩)]++frM b 1001 l⟩):=by cases b <;> kernel_rfl
theorem f8 (b:Bool) (l:List zab) (ds:List (Option zaf)) (R:List (zar×zaM)) (xs:List (List AV)) (ys:List (List AV)):tReg zaQ zT 8 ⟨[(4,AV.loc 4 2 0 0),(8,AV.fa 1 (List.map nDp ds)),(9,AV.mp (List.map zal R)),(10,AV.loc 10 2 0 0)],[(4,⟨2,zav,[[AV.v (.slice none 0 0),AV.v (.slice none 0 0)]],true⟩),(10,⟨2,zav,[[AV.row 301 8 0 (List.length xs),AV.row 302 12 0 (List.length ys)]],true⟩),(301,⟨8,zaO,xs,false⟩),(302,⟨12,zas,ys,false⟩)]++frM b 1001 l⟩=(some ⟨[(4,AV.loc 4 2 0 0),(9,AV.mp (List.map zal R)),(10,AV.loc 10 2 0 0),(34,AV.fa 1 (List.map nDp ds)),(35,I 0)],[(4,⟨2,zav,[[AV.v (.slice none 0 0),AV.v (.slice none 0 0)]],true⟩),(10,⟨2,zav,[[AV.row 301 8 0 (List.length xs),AV.row 302 12 0 (List.length ys)]],true⟩),(301,⟨8,zaO,xs,false⟩),(302,⟨12,zas,ys,false⟩)]++frM b 1001 l⟩):=by cases b <;> kernel_rfl
theorem f9 (b:Bool) (l:List zab) (ds:List (Option zaf)) (R:List (zar×zaM)) (xs:List (List AV)) (ys:List (List AV)) (i:Int):tReg zaQ zT 9 ⟨[(4,AV.loc 4 2 0 0),(9,AV.mp (List.map zal R)),(10,AV.loc 10 2 0 0),(34,AV.fa 1 (List.map nDp ds)),(35,I i)],[(4,⟨2,zav,[[AV.v (.slice none 0 0),AV.v (.slice none 0 0)]],true⟩),(10,⟨2,zav,[[AV.row 301 8 0 (List.length xs),AV.row 302 12 0 (List.length ys)]],true⟩),(301,⟨8,zaO,xs,false⟩),(302,⟨12,zas,ys,false⟩)]++frM b 1001 l⟩=(some ⟨[(4,AV.loc 4 2 0 0),(9,AV.mp (List.map zal R)),(10,AV.loc 10 2 0 0),(34,AV.fa 1 (List.map nDp ds)),(35,I i),(36,B (decide (i < 100)))],[(4,⟨2,zav,[[AV.v (.slice none 0 0),AV.v (.slice none 0 0)]],true⟩),(10,⟨2,zav,[[AV.row 301 8 0 (List.length xs),AV.row 302 12 0 (List.length ys)]],true⟩),(301,⟨8,zaO,xs,false⟩),(302,⟨12,zas,ys,false⟩)]++frM b 1001 l⟩):=by cases b <;> kernel_rfl
theorem f10 (b:Bool) (l:List zab) (ds:List (Option zaf)) (R:List (zar×zaM)) (xs:List (List AV)) (ys:List (List AV)) (i:Int):tReg zaQ zT 10 ⟨[(4,AV.loc 4 2 0 0),(9,AV.mp (List.map zal R)),(10,AV.loc 10 2 0 0),(34,AV.fa 1 (List.map nDp ds)),(35,I i)],[(4,⟨2,zav,[[AV.v (.slice none 0 0),AV.v (.slice none 0 0)]],true⟩),(10,⟨2,zav,[[AV.row 301 8 0 (List.length xs),AV.row 302 12 0 (List.length ys)]],true⟩),(301,⟨8,zaO,xs,false⟩),(302,⟨12,zas,ys,false⟩)]++frM b 1001 l⟩=(chk ((0:Int)≤i)<|
 chk ((i:Int) < (↑100:Int))<|
 elemP zeU (List.map nDp ds) i.toNat (some ⟨[(4,AV.loc 4 2 0 0),(9,AV.mp (List.map zal R)),(10,AV.loc 10 2 0 0),(11,I i),(12,AV.v (.pointer none)),(34,AV.fa 1 (List.map nDp ds)),(35,I i)],[(4,⟨2,zav,[[AV.v (.slice none 0 0),AV.v (.slice none 0 0)]],true⟩),(10,⟨2,zav,[[AV.row 301 8 0 (List.length xs),AV.row 302 12 0 (List.length ys)]],true⟩),(301,⟨8,zaO,xs,false⟩),(302,⟨12,zas,ys,false⟩)]++frM b 1001 l⟩)
 (fun (p0:Addr)=>some ⟨[(4,AV.loc 4 2 0 0),(9,AV.mp (List.map zal R)),(10,AV.loc 10 2 0 0),(11,I i),(12,AV.v (.pointer (some p0))),(34,AV.fa 1 (List.map nDp ds)),(35,I i)],[(4,⟨2,zav,[[AV.v (.slice none 0 0),AV.v (.slice none 0 0)]],true⟩),(10,⟨2,zav,[[AV.row 301 8 0 (List.length xs),AV.row 302 12 0 (List.length ys)]],true⟩),(301,⟨8,zaO,xs,false⟩),(302,⟨12,zas,ys,false⟩)]++frM b 1001 l⟩)
 fun (c1:zaf) =>
 some ⟨[(4,AV.loc 4 2 0 0),(9,AV.mp (List.map zal R)),(10,AV.loc 10 2 0 0),(11,I i),(12,AV.fp [I c1.level,AV.sl 10 (List.map zaj c1.marks),I c1.period,I c1.started.Time,I c1.started.Source,I c1.started.Seq,AV.mp (List.map zaq c1.noted),AV.sl 1 (List.map nBool c1.watch.Last),B c1.watch.Suspended,I c1.good.Time,I c1.good.Source,I c1.good.Seq,B c1.some,AV.sl 12 (List.map zah c1.suspensions)]),(34,AV.fa 1 (List.map nDp ds)),(35,I i)],[(4,⟨2,zav,[[AV.v (.slice none 0 0),AV.v (.slice none 0 0)]],true⟩),(10,⟨2,zav,[[AV.row 301 8 0 (List.length xs),AV.row 302 12 0 (List.length ys)]],true⟩),(301,⟨8,zaO,xs,false⟩),(302,⟨12,zas,ys,false⟩)]++frM b 1001 l⟩):=by cases b <;> kernel_rfl
theorem f11n (b:Bool) (l:List zab) (ds:List (Option zaf)) (R:List (zar×zaM)) (xs:List (List AV)) (ys:List (List AV)) (i:Int):tReg zaQ zT 11 ⟨[(4,AV.loc 4 2 0 0),(9,AV.mp (List.map zal R)),(10,AV.loc 10 2 0 0),(11,I i),(12,AV.v (.pointer none)),(34,AV.fa 1 (List.map nDp ds)),(35,I i)],[(4,⟨2,zav,[[AV.v (.slice none 0 0),AV.v (.slice none 0 0)]],true⟩),(10,⟨2,zav,[[AV.row 301 8 0 (List.length xs),AV.row 302 12 0 (List.length ys)]],true⟩),(301,⟨8,zaO,xs,false⟩),(302,⟨12,zas,ys,false⟩)]++frM b 1001 l⟩=(some ⟨[(4,AV.loc 4 2 0 0),(9,AV.mp (List.map zal R)),(10,AV.loc 10 2 0 0),(11,I i),(12,AV.v (.pointer none)),(34,AV.fa 1 (List.map nDp ds)),(35,I i),(42,B true)],[(4,⟨2,zav,[[AV.v (.slice none 0 0),AV.v (.slice none 0 0)]],true⟩),(10,⟨2,zav,[[AV.row 301 8 0 (List.length xs),AV.row 302 12 0 (List.length ys)]],true⟩),(301,⟨8,zaO,xs,false⟩),(302,⟨12,zas,ys,false⟩)]++frM b 1001 l⟩):=by cases b <;> kernel_rfl
theorem f11d (b:Bool) (l:List zab) (ds:List (Option zaf)) (R:List (zar×zaM)) (xs:List (List AV)) (ys:List (List AV)) (i:Int) (d:zaf):tReg zaQ zT 11 ⟨[(4,AV.loc 4 2 0 0),(9,AV.mp (List.map zal R)),(10,AV.loc 10 2 0 0),(11,I i),(12,AV.fp [I d.level,AV.sl 10 (List.map zaj d.marks),I d.period,I d.started.Time,I d.started.Source,I d.started.Seq,AV.mp (List.map zaq d.noted),AV.sl 1 (List.map nBool d.watch.Last),B d.watch.Suspended,I d.good.Time,I d.good.Source,I d.good.Seq,B d.some,AV.sl 12 (List.map zah d.suspensions)]),(34,AV.fa 1 (List.map nDp ds)),(35,I i)],[(4,⟨2,zav,[[AV.v (.slice none 0 0),AV.v (.slice none 0 0)]],true⟩),(10,⟨2,zav,[[AV.row 301 8 0 (List.length xs),AV.row 302 12 0 (List.length ys)]],true⟩),(301,⟨8,zaO,xs,false⟩),(302,⟨12,zas,ys,false⟩)]++frM b 1001 l⟩=(some ⟨[(4,AV.loc 4 2 0 0),(9,AV.mp (List.map zal R)),(10,AV.loc 10 2 0 0),(11,I i),(12,AV.fp [I d.level,AV.sl 10 (List.map zaj d.marks),I d.period,I d.started.Time,I d.started.Source,I d.started.Seq,AV.mp (List.map zaq d.noted),AV.sl 1 (List.map nBool d.watch.Last),B d.watch.Suspended,I d.good.Time,I d.good.Source,I d.good.Seq,B d.some,AV.sl 12 (List.map zah d.suspensions)]),(34,AV.fa 1 (List.map nDp ds)),(35,I i),(42,B false)],[(4,⟨2,zav,[[AV.v (.slice none 0 0),AV.v (.slice none 0 0)]],true⟩),(10,⟨2,zav,[[AV.row 301 8 0 (List.length xs),AV.row 302 12 0 (List.length ys)]],true⟩),(301,⟨8,zaO,xs,false⟩),(302,⟨12,zas,ys,false⟩)]++frM b 1001 l⟩):=by cases b <;> kernel_rfl
theorem f12 (b:Bool) (l:List zab) (ds:List (Option zaf)) (R:List (zar×zaM)) (xs:List (List AV)) (ys:List (List AV)) (i:Int) (d:zaf):tReg zaQ zT 12 ⟨[(4,AV.loc 4 2 0 0),(9,AV.mp (List.map zal R)),(10,AV.loc 10 2 0 0),(11,I i),(12,AV.fp [I d.level,AV.sl 10 (List.map zaj d.marks),I d.period,I d.started.Time,I d.started.Source,I d.started.Seq,AV.mp (List.map zaq d.noted),AV.sl 1 (List.map nBool d.watch.Last),B d.watch.Suspended,I d.good.Time,I d.good.Source,I d.good.Seq,B d.some,AV.sl 12 (List.map zah d.suspensions)]),(34,AV.fa 1 (List.map nDp ds)),(35,I i)],[(4,⟨2,zav,[[AV.v (.slice none 0 0),AV.v (.slice none 0 0)]],true⟩),(10,⟨2,zav,[[AV.row 301 8 0 (List.length xs),AV.row 302 12 0 (List.length ys)]],true⟩),(301,⟨8,zaO,xs,false⟩),(302,⟨12,zas,ys,false⟩)]++frM b 1001 l⟩=(chk (ys.length=ys.length)<|
 chk ((ys.length+(List.map zah d.suspensions).length)*(88+1)≤1099511627776)<|
 some ⟨[(4,AV.loc 4 2 0 0),(9,AV.mp (List.map zal R)),(10,AV.loc 10 2 0 0),(11,I i),(12,AV.fp [I d.level,AV.sl 10 (List.map zaj d.marks),I d.period,I d.started.Time,I d.started.Source,I d.started.Seq,AV.mp (List.map zaq d.noted),AV.sl 1 (List.map nBool d.watch.Last),B d.watch.Suspended,I d.good.Time,I d.good.Source,I d.good.Seq,B d.some,AV.sl 12 (List.map zah d.suspensions)]),(34,AV.fa 1 (List.map nDp ds)),(35,I i)],[(4,⟨2,zav,[[AV.v (.slice none 0 0),AV.v (.slice none 0 0)]],true⟩),(10,⟨2,zav,[[AV.row 301 8 0 (List.length xs),AV.row 302 12 0 (List.length (ys++(List.map zah d.suspensions)))]],true⟩),(301,⟨8,zaO,xs,false⟩),(302,⟨12,zas,ys++(List.map zah d.suspensions),false⟩)]++frM b 1001 l⟩):=by cases b <;> kernel_rfl
theorem f13 (b:Bool) (l:List zab) (ds:List (Option zaf)) (R:List (zar×zaM)) (xs:List (List AV)) (ys:List (List AV)) (i:Int) (d:zaf):tSeg zaQ zT 13 0 3 ⟨[(4,AV.loc 4 2 0 0),(9,AV.mp (List.map zal R)),(10,AV.loc 10 2 0 0),(11,I i),(12,AV.fp [I d.level,AV.sl 10 (List.map zaj d.marks),I d.period,I d.started.Time,I d.started.Source,I d.started.Seq,AV.mp (List.map zaq d.noted),AV.sl 1 (List.map nBool d.watch.Last),B d.watch.Suspended,I d.good.Time,I d.good.Source,I d.good.Seq,B d.some,AV.sl 12 (List.map zah d.suspensions)]),(34,AV.fa 1 (List.map nDp ds)),(35,I i)],[(4,⟨2,zav,[[AV.v (.slice none 0 0),AV.v (.slice none 0 0)]],true⟩),(10,⟨2,zav,[[AV.row 301 8 0 (List.length xs),AV.row 302 12 0 (List.length ys)]],true⟩),(301,⟨8,zaO,xs,false⟩),(302,⟨12,zas,ys,false⟩)]++frM b 1001 l⟩=(callD zdS (cw zdb [AV.fp [I d.level,AV.sl 10 (List.map zaj d.marks),I d.period,I d.started.Time,I d.started.Source,I d.started.Seq,AV.mp (List.map zaq d.noted),AV.sl 1 (List.map nBool d.watch.Last),B d.watch.Suspended,I d.good.Time,I d.good.Source,I d.good.Seq,B d.some,AV.sl 12 (List.map zah d.suspensions)],AV.mp (List.map zal R)] []) fun (r0:(List (zar×zab)))=>some ⟨[(53,AV.map 53),(52,AV.mp (List.map zal R)),(51,AV.fp [I d.level,AV.sl 10 (List.map zaj d.marks),I d.period,I d.started.Time,I d.started.Source,I d.started.Seq,AV.mp (List.map zaq d.noted),AV.sl 1 (List.map nBool d.watch.Last),B d.watch.Suspended,I d.good.Time,I d.good.Source,I d.good.Seq,B d.some,AV.sl 12 (List.map zah d.suspensions)]),(4,AV.loc 4 2 0 0),(9,AV.mp (List.map zal R)),(10,AV.loc 10 2 0 0),(11,I i),(12,AV.fp [I d.level,AV.sl 10 (List.map zaj d.marks),I d.period,I d.started.Time,I d.started.Source,I d.started.Seq,AV.mp (List.map zaq d.noted),AV.sl 1 (List.map nBool d.watch.Last),B d.watch.Suspended,I d.good.Time,I d.good.Source,I d.good.Seq,B d.some,AV.sl 12 (List.map zah d.suspensions)]),(34,AV.fa 1 (List.map nDp ds)),(35,I i)],[(53,⟨0,zbH,List.map zbz r0,false⟩),(4,⟨2,zav,[[AV.v (.slice none 0 0),AV.v (.slice none 0 0)]],true⟩),(10,⟨2,zav,[[AV.row 301 8 0 (List.length xs),AV.row 302 12 0 (List.length ys)]],true⟩),(301,⟨8,zaO,xs,false⟩),(302,⟨12,zas,ys,false⟩)]++frM b 1001 l⟩):=by cases b <;> kernel_rfl
theorem f15 (b:Bool) (l:List zab) (ds:List (Option zaf)) (R:List (zar×zaM)) (xs:List (List AV)) (ys:List (List AV)) (i:Int) (d:zaf) (p:Addr) (k:zar) (e:zab):tSeg zaQ zT 15 1 3 ⟨[(4,AV.loc 4 2 0 0),(9,AV.mp (List.map zal R)),(10,AV.loc 10 2 0 0),(11,I i),(12,AV.fp [I d.level,AV.sl 10 (List.map zaj d.marks),I d.period,I d.started.Time,I d.started.Source,I d.started.Seq,AV.mp (List.map zaq d.noted),AV.sl 1 (List.map nBool d.watch.Last),B d.watch.Suspended,I d.good.Time,I d.good.Source,I d.good.Seq,B d.some,AV.sl 12 (List.map zah d.suspensions)]),(34,AV.fa 1 (List.map nDp ds)),(35,I i),(54,AV.v (.pointer (some p))),(57,AV.tup [AV.agg [I k.script,I k.part],AV.agg [I e.Stamp.Time,I e.Stamp.Source,I e.Stamp.Seq,I e.Kind,I e.Script,I e.Part,I e.Value,I e.Marker,AV.sl 1 (List.map zak e.Pages)]])],[(4,⟨2,zav,[[AV.v (.slice none 0 0),AV.v (.slice none 0 0)]],true⟩),(10,⟨2,zav,[[AV.row 301 8 0 (List.length xs),AV.row 302 12 0 (List.length ys)]],true⟩),(301,⟨8,zaO,xs,false⟩),(302,⟨12,zas,ys,false⟩)]++frM b 1001 l⟩=(some ⟨[(14,AV.loc 14 9 0 0),(58,AV.agg [I e.Stamp.Time,I e.Stamp.Source,I e.Stamp.Seq,I e.Kind,I e.Script,I e.Part,I e.Value,I e.Marker,AV.sl 1 (List.map zak e.Pages)]),(4,AV.loc 4 2 0 0),(9,AV.mp (List.map zal R)),(10,AV.loc 10 2 0 0),(11,I i),(12,AV.fp [I d.level,AV.sl 10 (List.map zaj d.marks),I d.period,I d.started.Time,I d.started.Source,I d.started.Seq,AV.mp (List.map zaq d.noted),AV.sl 1 (List.map nBool d.watch.Last),B d.watch.Suspended,I d.good.Time,I d.good.Source,I d.good.Seq,B d.some,AV.sl 12 (List.map zah d.suspensions)]),(34,AV.fa 1 (List.map nDp ds)),(35,I i),(54,AV.v (.pointer (some p))),(57,AV.tup [AV.agg [I k.script,I k.part],AV.agg [I e.Stamp.Time,I e.Stamp.Source,I e.Stamp.Seq,I e.Kind,I e.Script,I e.Part,I e.Value,I e.Marker,AV.sl 1 (List.map zak e.Pages)]])],[(14,⟨9,zac,[zaa e],true⟩),(4,⟨2,zav,[[AV.v (.slice none 0 0),AV.v (.slice none 0 0)]],true⟩),(10,⟨2,zav,[[AV.row 301 8 0 (List.length xs),AV.row 302 12 0 (List.length ys)]],true⟩),(301,⟨8,zaO,xs,false⟩),(302,⟨12,zas,ys,false⟩)]++frM b 1001 l⟩):=by cases b <;> kernel_rfl
theorem f16 (b:Bool) (l:List zab) (ds:List (Option zaf)) (R:List (zar×zaM)) (xs:List (List AV)) (ys:List (List AV)) (i:Int) (d:zaf) (p:Addr) (e:zab):tReg zaQ zT 16 ⟨[(4,AV.loc 4 2 0 0),(9,AV.mp (List.map zal R)),(10,AV.loc 10 2 0 0),(11,I i),(12,AV.fp [I d.level,AV.sl 10 (List.map zaj d.marks),I d.period,I d.started.Time,I d.started.Source,I d.started.Seq,AV.mp (List.map zaq d.noted),AV.sl 1 (List.map nBool d.watch.Last),B d.watch.Suspended,I d.good.Time,I d.good.Source,I d.good.Seq,B d.some,AV.sl 12 (List.map zah d.suspensions)]),(14,AV.loc 14 9 0 0),(34,AV.fa 1 (List.map nDp ds)),(35,I i),(54,AV.v (.pointer (some p)))],[(4,⟨2,zav,[[AV.v (.slice none 0 0),AV.v (.slice none 0 0)]],true⟩),(10,⟨2,zav,[[AV.row 301 8 0 (List.length xs),AV.row 302 12 0 (List.length ys)]],true⟩),(14,⟨9,zac,[zaa e],true⟩),(301,⟨8,zaO,xs,false⟩),(302,⟨12,zas,ys,false⟩)]++frM b 1001 l⟩=(chk (xs.length=xs.length)<|
 chk ((xs.length+1)*(64+1)≤1099511627776)<|
 some ⟨[(4,AV.loc 4 2 0 0),(9,AV.mp (List.map zal R)),(10,AV.loc 10 2 0 0),(11,I i),(12,AV.fp [I d.level,AV.sl 10 (List.map zaj d.marks),I d.period,I d.started.Time,I d.started.Source,I d.started.Seq,AV.mp (List.map zaq d.noted),AV.sl 1 (List.map nBool d.watch.Last),B d.watch.Suspended,I d.good.Time,I d.good.Source,I d.good.Seq,B d.some,AV.sl 12 (List.map zah d.suspensions)]),(34,AV.fa 1 (List.map nDp ds)),(35,I i),(54,AV.v (.pointer (some p)))],[(4,⟨2,zav,[[AV.v (.slice none 0 0),AV.v (.slice none 0 0)]],true⟩),(10,⟨2,zav,[[AV.row 301 8 0 (List.length (xs++([[I e.Script,I e.Part,I i,I d.level,I e.Value,I e.Stamp.Time,I e.Stamp.Source,I e.Stamp.Seq]]))),AV.row 302 12 0 (List.length ys)]],true⟩),(301,⟨8,zaO,xs++([za5 (⟨e.Script,e.Part,i,d.level,e.Value,⟨e.Stamp.Time,e.Stamp.Source,e.Stamp.Seq⟩⟩)]),false⟩),(302,⟨12,zas,ys,false⟩)]++frM b 1001 l⟩):=by cases b <;> kernel_rfl
theorem f17 (b:Bool) (l:List zab) (ds:List (Option zaf)) (R:List (zar×zaM)) (xs:List (List AV)) (ys:List (List AV)) (i:Int):tReg zaQ zT 17 ⟨[(4,AV.loc 4 2 0 0),(9,AV.mp (List.map zal R)),(10,AV.loc 10 2 0 0),(34,AV.fa 1 (List.map nDp ds)),(35,I i)],[(4,⟨2,zav,[[AV.v (.slice none 0 0),AV.v (.slice none 0 0)]],true⟩),(10,⟨2,zav,[[AV.row 301 8 0 (List.length xs),AV.row 302 12 0 (List.length ys)]],true⟩),(301,⟨8,zaO,xs,false⟩),(302,⟨12,zas,ys,false⟩)]++frM b 1001 l⟩=(some ⟨[(4,AV.loc 4 2 0 0),(9,AV.mp (List.map zal R)),(10,AV.loc 10 2 0 0),(34,AV.fa 1 (List.map nDp ds)),(35,I (w64 (i+1)))],[(4,⟨2,zav,[[AV.v (.slice none 0 0),AV.v (.slice none 0 0)]],true⟩),(10,⟨2,zav,[[AV.row 301 8 0 (List.length xs),AV.row 302 12 0 (List.length ys)]],true⟩),(301,⟨8,zaO,xs,false⟩),(302,⟨12,zas,ys,false⟩)]++frM b 1001 l⟩):=by cases b <;> kernel_rfl
theorem f18 (b:Bool) (l:List zab) (gs:List zbp) (ys:List (List AV)):tReg zaQ zT 18 ⟨[(4,AV.loc 4 2 0 0),(10,AV.loc 10 2 0 0)],[(4,⟨2,zav,[[AV.v (.slice none 0 0),AV.v (.slice none 0 0)]],true⟩),(10,⟨2,zav,[[AV.row 301 8 0 (List.length (List.map za5 gs)),AV.row 302 12 0 (List.length ys)]],true⟩),(301,⟨8,zaO,List.map za5 gs,false⟩),(302,⟨12,zas,ys,false⟩)]++frM b 1001 l⟩=(callD zbl (cw zfj [AV.row 1000 8 0 (List.length (List.map za5 gs)),AV.fn zeb []] [(1000,⟨8,zaO,List.map za5 gs,false⟩)]) fun (r0:(List zbp))=>some ⟨[(4,AV.loc 4 2 0 0),(10,AV.loc 10 2 0 0)],[(4,⟨2,zav,[[AV.v (.slice none 0 0),AV.v (.slice none 0 0)]],true⟩),(10,⟨2,zav,[[AV.row 301 8 0 ((List.map za5 gs).length),AV.row 302 12 0 (List.length ys)]],true⟩),(301,⟨8,zaO,List.map za5 r0,false⟩),(302,⟨12,zas,ys,false⟩)]++frM b 1001 l⟩):=by cases b <;> kernel_rfl
theorem f19 (b:Bool) (l:List zab) (xs:List (List AV)) (ys:List (List AV)):tReg zaQ zT 19 ⟨[(4,AV.loc 4 2 0 0),(10,AV.loc 10 2 0 0)],[(4,⟨2,zav,[[AV.v (.slice none 0 0),AV.v (.slice none 0 0)]],true⟩),(10,⟨2,zav,[[AV.row 301 8 0 (List.length xs),AV.row 302 12 0 (List.length ys)]],true⟩),(301,⟨8,zaO,xs,false⟩),(302,⟨12,zas,ys,false⟩)]++frM b 1001 l⟩=(some ⟨[(4,AV.loc 4 2 0 0),(5,I 0)],[(4,⟨2,zav,[[AV.row 301 8 0 (List.length xs),AV.row 302 12 0 (List.length ys)]],true⟩),(301,⟨8,zaO,xs,false⟩),(302,⟨12,zas,ys,false⟩)]++frM b 1001 l⟩):=by cases b <;> kernel_rfl
theorem f3 (s:zay) (l:List zab):tReg zaQ zT 3 ⟨[(1,AV.row 1001 9 0 (List.length (List.map zaa l))),(2,AV.loc 2 9 0 0),(4,AV.loc 4 2 0 0)],[(2,⟨9,zaz,[zau s],true⟩),(4,⟨2,zav,[[AV.v (.slice none 0 0),AV.v (.slice none 0 0)]],true⟩),(1001,⟨9,zac,List.map zaa l,false⟩)]⟩=(callD ze3 (cw zbj [AV.row 1000 9 0 (List.length (List.map zaa l))] [(1000,⟨9,zac,List.map zaa l,false⟩)]) fun (r0:((List zab)×Int)×(List zab))=>some ⟨[(2,AV.loc 2 9 0 0),(4,AV.loc 4 2 0 0),(6,AV.sl 9 (List.map zaa r0.fst.fst)),(7,I r0.fst.snd)],[(2,⟨9,zaz,[zau s],true⟩),(4,⟨2,zav,[[AV.v (.slice none 0 0),AV.v (.slice none 0 0)]],true⟩),(1001,⟨9,zac,List.map zaa r0.snd,false⟩)]⟩):=by kernel_rfl
theorem f3f (s:zay) (l:List zab):tReg zaQ zT 3 ⟨[(1,AV.sl 9 (List.map zaa l)),(2,AV.loc 2 9 0 0),(4,AV.loc 4 2 0 0)],[(2,⟨9,zaz,[zau s],true⟩),(4,⟨2,zav,[[AV.v (.slice none 0 0),AV.v (.slice none 0 0)]],true⟩)]⟩=(callD zfQ (cw zbj [AV.sl 9 (List.map zaa l)] []) fun (r0:(List zab)×Int)=>some ⟨[(2,AV.loc 2 9 0 0),(4,AV.loc 4 2 0 0),(6,AV.sl 9 (List.map zaa r0.fst)),(7,I r0.snd)],[(2,⟨9,zaz,[zau s],true⟩),(4,⟨2,zav,[[AV.v (.slice none 0 0),AV.v (.slice none 0 0)]],true⟩)]⟩):=by kernel_rfl
set_option maxRecDepth 100000
def foC:Code:=(zaQ.fn.body).getD .skip
def foO (j:Nat):Array Oper:=opsAt j foC
def foD (j:Nat):Bool:=zq3 j foC
theorem fo_hb:zaQ.fn.body=some foC:=by kernel_rfl
theorem fo_shape:foC=(.seq (.region 0 (foO 0) (foD 0)) (.seq (.seq (.region 1 (foO 1) (foD 1)) (.cond (.tmp 17) (.seq (.region 2 (foO 2) (foD 2)) .ret) .skip)) (.seq (.region 3 (foO 3) (foD 3)) (.seq (.seq (.region 4 (foO 4) (foD 4)) (.cond (.tmp 25) (.seq (.region 5 (foO 5) (foD 5)) .ret) .skip)) (.seq (.region 6 (foO 6) (foD 6)) (.seq (.region 7 (foO 7) (foD 7)) (.seq (.seq (.region 8 (foO 8) (foD 8)) (.block 0 (.loop (.seq (.region 9 (foO 9) (foD 9)) (.seq (.cond (.tmp 36) .skip (.exit 0)) (.seq (.block 1 (.seq (.region 10 (foO 10) (foD 10)) (.seq (.seq (.region 11 (foO 11) (foD 11)) (.cond (.tmp 42) (.exit 1) .skip)) (.seq (.region 12 (foO 12) (foD 12)) (.seq (.region 13 (foO 13) false) (.block 2 (.loop (.seq (.region 14 (foO 14) false) (.seq (.cond (.tmp 56) .skip (.exit 2)) (.block 3 (.seq (.region 15 (foO 15) false) (.region 16 (foO 16) (foD 16))))))))))))) (.region 17 (foO 17) (foD 17)))))))) (.seq (.region 18 (foO 18) (foD 18)) (.seq (.region 19 (foO 19) (foD 19)) .ret))))))))):=by kernel_rfl
theorem fo_r0:regOf 0 foC=some (.region 0 (foO 0) (foD 0)):=by kernel_rfl
theorem fo_r1:regOf 1 foC=some (.region 1 (foO 1) (foD 1)):=by kernel_rfl
theorem fo_r3:regOf 3 foC=some (.region 3 (foO 3) (foD 3)):=by kernel_rfl
theorem fo_r4:regOf 4 foC=some (.region 4 (foO 4) (foD 4)):=by kernel_rfl
theorem fo_r6:regOf 6 foC=some (.region 6 (foO 6) (foD 6)):=by kernel_rfl
theorem fo_r7:regOf 7 foC=some (.region 7 (foO 7) (foD 7)):=by kernel_rfl
theorem fo_r8:regOf 8 foC=some (.region 8 (foO 8) (foD 8)):=by kernel_rfl
theorem fo_r9:regOf 9 foC=some (.region 9 (foO 9) (foD 9)):=by kernel_rfl
theorem fo_r10:regOf 10 foC=some (.region 10 (foO 10) (foD 10)):=by kernel_rfl
theorem fo_r11:regOf 11 foC=some (.region 11 (foO 11) (foD 11)):=by kernel_rfl
theorem fo_r12:regOf 12 foC=some (.region 12 (foO 12) (foD 12)):=by kernel_rfl
theorem fo_r16:regOf 16 foC=some (.region 16 (foO 16) (foD 16)):=by kernel_rfl
theorem fo_r17:regOf 17 foC=some (.region 17 (foO 17) (foD 17)):=by kernel_rfl
theorem fo_r18:regOf 18 foC=some (.region 18 (foO 18) (foD 18)):=by kernel_rfl
theorem fo_r19:regOf 19 foC=some (.region 19 (foO 19) (foD 19)):=by kernel_rfl
theorem fo_r13:regOf 13 foC=some (.region 13 (foO 13) false):=by kernel_rfl
theorem fo_r15:regOf 15 foC=some (.region 15 (foO 15) false):=by kernel_rfl
theorem fo_n:zaQ.fn.ntmps≤1000:=by decide
def zbW (ds:Desks) (R:Reop) (n:Nat):List zbp:=(List.range n).flatMap fun (i:Nat)=>match ds i with
 | some d=>(countS d R).map fun p=>zbZ i d p.2
 | none=>[]
def suspTo (ds:Desks) (n:Nat):List za8:=(List.range n).flatMap fun (i:Nat)=>match ds i with
 | some d=>d.suspensions
 | none=>[]
theorem zmg (ds:Desks) (R:Reop) (n:Nat):zbW ds R (n+1)=zbW ds R n++(match ds n with
 | some d=>(countS d R).map fun p=>zbZ n d p.2
 | none=>[]):=by
 unfold zbW; rw [zo0,List.flatMap_append]; simp
theorem zho (ds:Desks) (n:Nat):suspTo ds (n+1)=suspTo ds n++(match ds n with
 | some d=>d.suspensions
 | none=>[]):=by
 unfold suspTo; rw [zo0,List.flatMap_append]; simp
theorem zya (ds:Desks) {i:Nat} (hi:i < 100):(List.map nDp (deskL ds))[i]?=some (nDp (ds i)):=by unfold deskL; rw [zcR,zcR,zmD hi]; rfl
def gotOf (i:Nat) (d:zaf) (cs:Counts) (done:List Nat):List zbp:=done.filterMap fun j=>cs[j]?.map fun p=>zbZ i d p.2
noncomputable section
abbrev fA (b:Bool) (l:List zab):Nat×AV:=(1,frA b 1001 l)
abbrev fB2 (s:zay):Nat×Ent:=(2,⟨9,zaz,[zau s],true⟩)
abbrev fB4:Nat×Ent:=(4,⟨2,zav,[[.v (.slice none 0 0),.v (.slice none 0 0)]],true⟩)
abbrev fS2:Nat×AV:=(2,.loc 2 9 0 0)
abbrev fS4:Nat×AV:=(4,.loc 4 2 0 0)
abbrev fS10:Nat×AV:=(10,.loc 10 2 0 0)
abbrev fS9 (R:Reop):Nat×AV:=(9,.mp (List.map zal R))
abbrev fS34 (ds:Desks):Nat×AV:=(34,.fa 1 (List.map nDp (deskL ds)))
abbrev fS35 (i:Nat):Nat×AV:=(35,I (i:Int))
abbrev fS11 (i:Nat):Nat×AV:=(11,I (i:Int))
abbrev fS12 (d:zaf):Nat×AV:=(12,.fp (zcW d))
abbrev fS54 (r:Nat):Nat×AV:=(54,.v (.pointer (some ⟨r,0,none⟩)))
abbrev fM (b:Bool) (gs:List zbp) (us:List za8) (l:List zab):Mem:=[fB4,(10,⟨2,zav,[[.row 301 8 0 (List.map za5 gs).length,.row 302 12 0 (List.map zah us).length]],true⟩),(301,⟨8,zaO,List.map za5 gs,false⟩),(302,⟨12,zas,List.map zah us,false⟩)]++frM b 1001 l
abbrev stF (b:Bool) (l:List zab) (ds:Desks) (R:Reop) (gs:List zbp) (us:List za8) (i:Nat):St:=⟨[fS4,fS9 R,fS10,fS34 ds,fS35 i],fM b gs us l⟩
abbrev stG (b:Bool) (l:List zab) (ds:Desks) (R:Reop) (gs:List zbp) (us:List za8) (i:Nat) (d:zaf) (r:Nat):St:=⟨[fS4,fS9 R,fS10,fS11 i,fS12 d,fS34 ds,fS35 i,fS54 r],fM b gs us l⟩
structure FoLegs (b:Bool) (s:zay) (l:List zab) (ds:Desks) (R:Reop):Prop where
 cCheck:cw zgJ [.agg (zau s)] []=some (zbf 0)
 cCanon:cw zbj [frA b 1000 l] (frM b 1000 l)=some (bif b then zdw ((canonS l,0),l) else zeT (canonS l,0))
 cWalk:cw zcH [.agg (zau s),.sl 9 (List.map zaa (canonS l))] []=some (zhK (deskL ds,R))
 cCount:∀ i d,ds i=some d→cw zdb [.fp (zcW d),.mp (List.map zal R)] []=some (zcF (countS d R))
 cSort:∀ gs,List.Perm gs (zbW ds R 100)→cw zfj [.row 1000 8 0 (List.map za5 gs).length,.fn zeb []] [(1000,⟨8,zaO,List.map za5 gs,false⟩)]=some (zdD (isort zca (zbW ds R 100)))
 few:(zbW ds R 100).length < 1000000
 fewS:(suspTo ds 100).length < 1000000
theorem f3b (b:Bool) (s:zay) (l:List zab) {ev:List zab} (h:cw zbj [frA b 1000 l] (frM b 1000 l)=some (bif b then zdw ((ev,0),l) else zeT (ev,0))):tReg zaQ zT 3 ⟨[(1,frA b 1001 l),(2,AV.loc 2 9 0 0),(4,AV.loc 4 2 0 0)],[(2,⟨9,zaz,[zau s],true⟩),(4,⟨2,zav,[[AV.v (.slice none 0 0),AV.v (.slice none 0 0)]],true⟩)]++frM b 1001 l⟩=some ⟨[(2,AV.loc 2 9 0 0),(4,AV.loc 4 2 0 0),(6,AV.sl 9 (List.map zaa ev)),(7,I 0)],[(2,⟨9,zaz,[zau s],true⟩),(4,⟨2,zav,[[AV.v (.slice none 0 0),AV.v (.slice none 0 0)]],true⟩)]++frM b 1001 l⟩:=by
 cases b with
 | true=>have t:=f3 s l; rw [show cw zbj [AV.row 1000 9 0 (List.length (List.map zaa l))] [(1000,⟨9,zac,List.map zaa l,false⟩)]=some (zdw ((ev,0),l)) from h,zkD] at t; exact t
 | false=>have t:=f3f s l; rw [show cw zbj [AV.sl 9 (List.map zaa l)] []=some (zeT (ev,0)) from h,zof] at t; exact t
section
variable {w0:World} {S0:Nat→Prop} {κ0:Kap} {K:Nat→Prop} {a:Act} {w:World}
abbrev Y0:Sat2:=fun _ _ _ _=>True
theorem foStep {j:Nat} {st st':St} {X:Sat2} (hX:Stable X) (hr:regOf j foC=some (.region j (foO j) (foD j))) (ht:tReg zaQ zT j st=some st')
  (h:NowP w0 S0 κ0 K zaQ.fn.ntmps X st a w) {Q:Exit→Act→World→Prop} (hQ:∀ a' w',NowP w0 S0 κ0 K zaQ.fn.ntmps X st' a' w'→Q .normal a' w'):(Code.region j (foO j) (foD j)).wp zaQ.P Q a w:=stepP hX fo_hb fo_n hr ht h hQ
theorem got_snoc (i:Nat) (d:zaf) (cs:Counts) (done:List Nat) {j:Nat} {k:zar} {e:zab} (hj:cs[j]?=some (k,e)):gotOf i d cs (done++[j])=gotOf i d cs done++[zbZ i d e]:=by unfold gotOf; rw [List.filterMap_append]; congr 1; simp [hj]
theorem got_perm (i:Nat) (d:zaf) (cs:Counts) {done:List Nat} (hd:done.Nodup) (h1:∀ i∈done,i < cs.length) (h2:∀ i,i < cs.length→i∈done):List.Perm (gotOf i d cs done) (cs.map fun p=>zbZ i d p.2):=by
 have hp:List.Perm done (List.range cs.length):=(zvJ hd List.nodup_range).2 (fun i=>⟨fun h=>zhC.2 (h1 i h),fun h=>h2 i (zhC.1 h)⟩); refine (hp.filterMap _).trans (.of_eq ?_)
 have e:(List.range cs.length).filterMap (fun j=>cs[j]?.map fun p=>zbZ i d p.2)=((List.range cs.length).filterMap (fun j=>cs[j]?)).map fun p=>zbZ i d p.2:=by rw [List.map_filterMap]
 rw [e,zlU]
theorem fo_range {b:Bool} {l:List zab} {ds:Desks} {R:Reop} {gs:List zbp} {us:List za8} {i:Nat} {d:zaf} (hc:cw zdb [.fp (zcW d),.mp (List.map zal R)] []=some (zcF (countS d R))) (hfew:gs.length+(countS d R).length < 1000000)
  (h:NowP w0 S0 κ0 K zaQ.fn.ntmps Y0 ⟨[fS4,fS9 R,fS10,fS11 i,fS12 d,fS34 ds,fS35 i],fM b gs us l⟩ a w) {Q:Exit→Act→World→Prop}
  (hQ:∀ xs a' w',List.Perm xs ((countS d R).map fun p=>zbZ i d p.2)→NowP w0 S0 κ0 K zaQ.fn.ntmps Y0 (stF b l ds R (gs++xs) us i) a' w'→Q .normal a' w'):(Code.seq (.region 13 (foO 13) false) (.block 2 (.loop (.seq (.region 14 (foO 14) false) (.seq (.cond (.tmp 56) .skip (.exit 2)) (.block 3 (.seq (.region 15 (foO 15) false) (.region 16 (foO 16) (foD 16))))))))).wp zaQ.P Q a w:=by
 refine wp_seq (wp_region ?_); have z2:(foO 13).size=4:=by kernel_rfl
 rw [z2,show List.range 4=List.range' 0 3++[3] from rfl]; have t2:=f13 b l (deskL ds) R (List.map za5 gs) (List.map zah us) i d; unfold zcW at hc; rw [hc,zhS] at t2; refine segP Stable.none fo_hb fo_n fo_r13 t2 (by rw [z2]; decide) h (fun a1 w1 h1=>?_); have h2:=h1.freeze Stable.none fo_n [53] (by cases b <;> kernel_rfl) (st':=⟨[(53,.mp (List.map zbz (countS d R))),(52,.mp (List.map zal R)),(51,.fp (zcW d)),fS4,fS9 R,fS10,fS11 i,fS12 d,fS34 ds,fS35 i],fM b gs us l⟩) (by cases b <;> kernel_rfl); rw [wpOps_cons]; refine range_op (t:=114) (k:=117) (e:=64) (by unfold opIs; kernel_rfl) (by cases b <;> kernel_rfl) (by decide) h2 (m:=53) (d:=54) rfl (fun a3 w3 r q en clock h3=>?_); have h4:=h3.trim Rng.stable [4,9,10,11,12,34,35,54] [] (st':=stG b l ds R gs us i d r) (by cases b <;> kernel_rfl); rw [show gs=gs++gotOf i d (countS d R) [] by simp [gotOf]] at h4; refine rng_loop (it:=54) (d1:=55) (d2:=56) (r:=r) (stf:=fun done=>stG b l ds R (gs++gotOf i d (countS d R) done) us i d r) [4,9,10,11,12,34,35,54] (by cases b <;> kernel_rfl) (by unfold opIs; kernel_rfl) (by unfold opIs; kernel_rfl) (by decide) (by decide) (fun _=>rfl) (fun _ _ _=>by cases b <;> kernel_rfl) ?_ h4 ?_
 · intro done j k v hd hl hjd hkv a w hn
   have hj:j < (countS d R).length:=by have:=(zbs.1 hkv).1; simpa using this
   rw [zcR,zaC hj] at hkv
   have hlen:(gs++gotOf i d (countS d R) done).length < 1000000:=by have h1:(gotOf i d (countS d R) done).length≤done.length:=zrA _ _; have h2:=ztY hd (n:=(countS d R).length) (fun i hi=>by simpa using hl i hi); rw [zep]; omega
   have hev:=got_snoc i d (countS d R) done (j:=j) (k:=(countS d R)[j].1) (e:=(countS d R)[j].2) (zaC hj); simp only [hev,← zgz]; generalize gs++gotOf i d (countS d R) done=xs at hn hlen ⊢; generalize hx:(countS d R)[j]=x at hkv ⊢; obtain ⟨kk,e⟩:=x; simp only [zc1,zat,zbz,zbm,and_true] at hkv; obtain ⟨rfl,rfl⟩:=hkv; refine wp_block (wp_seq (wp_region ?_)); have z4:(foO 15).size=4:=by kernel_rfl
   rw [z4,show List.range 4=0 :: (List.range' 1 3++[]) from rfl,wpOps_cons]; refine entry_op (by unfold opIs; kernel_rfl) (by decide) hn (it:=54) (d:=57) rfl (by rw [zcR,zaC hj,hx]; rfl) (fun a1 w1 h1=>?_); have h2:=h1.trim Rng.stable [4,9,10,11,12,34,35,54,57] [] (st':=⟨[fS4,fS9 R,fS10,fS11 i,fS12 d,fS34 ds,fS35 i,fS54 r,(57,.tup [.agg (zbd kk),.agg (zaa e)])],fM b xs us l⟩) (by cases b <;> kernel_rfl); refine segP Rng.stable fo_hb fo_n fo_r15 (f15 b l (deskL ds) R (List.map za5 xs) (List.map zah us) i d _ kk e) (by rw [z4]; decide) h2 (fun a3 w3 h3=>?_); have h4:=h3.trim Rng.stable [4,9,10,11,12,14,34,35,54] [] (st':=⟨[fS4,fS9 R,fS10,fS11 i,fS12 d,(14,.loc 14 9 0 0),fS34 ds,fS35 i,fS54 r],[fB4,(10,⟨2,zav,[[.row 301 8 0 (List.map za5 xs).length,.row 302 12 0 (List.map zah us).length]],true⟩),(14,⟨9,zac,[zaa e],true⟩),(301,⟨8,zaO,List.map za5 xs,false⟩),(302,⟨12,zas,List.map zah us,false⟩)]++frM b 1001 l⟩) (by cases b <;> kernel_rfl); have t6:=f16 b l (deskL ds) R (List.map za5 xs) (List.map zah us) i d ⟨r,0,none⟩ e; rw [zan rfl,zan (by simp only [zap]; omega)] at t6; refine foStep Rng.stable fo_r16 t6 h4 (fun a7 w7 h7=>⟨rfl,?_⟩); have e1:List.map za5 (xs++[zbZ i d e])=List.map za5 xs++[za5 (zbZ i d e)]:=by simp
   unfold stG fM; rw [e1]; exact h7
 · intro done hd hl hall a' w' hn; refine hQ _ a' w' (got_perm i d (countS d R) hd (fun i hi=>by simpa using hl i hi) (fun i hi=>hall i (by simpa using hi))) ?_; exact (hn.trim Rng.stable [4,9,10,34,35] [] (st':=stF b l ds R (gs++gotOf i d (countS d R) done) us i) (by cases b <;> kernel_rfl)).drop
theorem fo_loop {b:Bool} {s:zay} {l:List zab} {ds:Desks} {R:Reop} (g:FoLegs b s l ds R) (h:NowP w0 S0 κ0 K zaQ.fn.ntmps Y0 (stF b l ds R [] [] 0) a w) {Q:Exit→Act→World→Prop}
  (hQ:∀ gs a' w',List.Perm gs (zbW ds R 100)→NowP w0 S0 κ0 K zaQ.fn.ntmps Y0 (stF b l ds R gs (suspTo ds 100) 100) a' w'→Q .normal a' w'):(Code.wp zaQ.P (.block 0 (.loop (.seq (.region 9 (foO 9) (foD 9)) (.seq (.cond (.tmp 36) .skip (.exit 0)) (.seq (.block 1 (.seq (.region 10 (foO 10) (foD 10)) (.seq (.seq (.region 11 (foO 11) (foD 11)) (.cond (.tmp 42) (.exit 1) .skip)) (.seq (.region 12 (foO 12) (foD 12)) (.seq (.region 13 (foO 13) false) (.block 2 (.loop (.seq (.region 14 (foO 14) false) (.seq (.cond (.tmp 56) .skip (.exit 2)) (.block 3 (.seq (.region 15 (foO 15) false) (.region 16 (foO 16) (foD 16))))))))))))) (.region 17 (foO 17) (foD 17))))))) Q a w):=by
 have mono:∀ k,k≤100→(zbW ds R k).length≤(zbW ds R 100).length∧(suspTo ds k).length≤(suspTo ds 100).length:=fun k hk=>by
  induction hn:100 - k generalizing k with
  | zero =>
    have:k=100:=by omega
    subst this; exact ⟨zbR _,zbR _⟩
  | succ n ih=>have h1:=ih (k+1) (by omega) (by omega); rw [zmg,zho,zep,zep] at h1; omega
 have hfew:=g.few; have hfewS:=g.fewS; refine wp_block (wp_loop (fun a w=>∃ k gs,k≤100∧List.Perm gs (zbW ds R k)∧NowP w0 S0 κ0 K zaQ.fn.ntmps Y0 (stF b l ds R gs (suspTo ds k) k) a w) (fun a _=>100 - cnt a 35) ⟨0,[],zkj _,zrB _,h⟩ ?_)
 rintro a w ⟨k,gs,hk,hp,hn⟩
 have hc0:cnt a 35=k:=by rw [hn.cnt (n:=(k:Int)) rfl]; simp
 have hup:∀ (a':Act) (w':World) (gs':List zbp),k < 100→List.Perm gs' (zbW ds R (k+1))→NowP w0 S0 κ0 K zaQ.fn.ntmps Y0 (stF b l ds R gs' (suspTo ds (k+1)) k) a' w'→(Code.region 17 (foO 17) (foD 17)).wp zaQ.P (Exit.then (fun a' w'=>(∃ k gs,k≤100∧List.Perm gs (zbW ds R k)∧NowP w0 S0 κ0 K zaQ.fn.ntmps Y0 (stF b l ds R gs (suspTo ds k) k) a' w')∧100 - cnt a' 35 < 100 - cnt a 35) (Exit.inBlock 0 Q)) a' w':=fun a' w' gs' hk' hp' hn'=>by
  refine foStep Stable.none fo_r17 (f17 b l (deskL ds) R _ _ _) hn' (fun a6 w6 h6=>?_); rw [w6Q] at h6; refine ⟨⟨k+1,gs',hk',hp',by exact_mod_cast h6⟩,?_⟩; have:cnt a6 35=k+1:=by rw [h6.cnt (n:=(k:Int)+1) rfl]; omega
  omega
 refine wp_seq (foStep Stable.none fo_r9 (f9 b l (deskL ds) R _ _ _) hn (fun a2 w2 h2=>?_)); refine wp_seq (wp_cond (h2.bool (b:=decide ((k:Int) < 100)) rfl) ?_); by_cases hlt:k < 100
 · rw [decide_eq_true (by omega),if_pos rfl]; refine wp_skip ?_; have h3:=h2.trim Stable.none [4,9,10,34,35] [] (st':=stF b l ds R gs (suspTo ds k) k) (by cases b <;> kernel_rfl); have t:=f10 b l (deskL ds) R (List.map za5 gs) (List.map zah (suspTo ds k)) k; have hget:=zya ds hlt; rw [cPQ,zan (show ((k:Int)) < 100 by omega)] at t; refine wp_seq (wp_block (wp_seq ?_))
   cases hd:ds k with
   | none =>
     rw [hd] at hget; rw [zpQ (by simpa [nDp] using hget)] at t; refine foStep Stable.none fo_r10 t h3 (fun a4 w4 h4=>?_); refine wp_seq (wp_seq (foStep Stable.none fo_r11 (f11n b l (deskL ds) R _ _ _) h4 (fun a5 w5 h5=>?_))); refine wp_cond (h5.bool (b:=true) rfl) ?_; rw [if_pos rfl]; refine wp_exit ?_; have h6:=h5.trim Stable.none [4,9,10,34,35] [] (st':=stF b l ds R gs (suspTo ds k) k) (by cases b <;> kernel_rfl); refine hup a5 w5 gs hlt ?_ ?_
     · rw [zmg,hd]; simpa using hp
     · rw [zho,hd]; simpa using h6
   | some d =>
     rw [hd] at hget; rw [zyc (D:=zeU) (x:=d) (by simpa [nDp] using hget)] at t; refine foStep Stable.none fo_r10 t h3 (fun a4 w4 h4=>?_); refine wp_seq (wp_seq (foStep Stable.none fo_r11 (f11d b l (deskL ds) R _ _ _ d) h4 (fun a5 w5 h5=>?_))); refine wp_cond (h5.bool (b:=false) rfl) ?_; rw [iNs]; refine wp_skip ?_; have h6:=h5.trim Stable.none [4,9,10,11,12,34,35] [] (st':=⟨[fS4,fS9 R,fS10,fS11 k,fS12 d,fS34 ds,fS35 k],fM b gs (suspTo ds k) l⟩) (by cases b <;> kernel_rfl); have hm:=mono (k+1) (by omega); rw [zmg,zho,hd,zep,zep] at hm; simp only [zap] at hm; have t12:=f12 b l (deskL ds) R (List.map za5 gs) (List.map zah (suspTo ds k)) k d; rw [zan rfl,zan (by simp only [zap]; omega)] at t12; refine wp_seq (foStep Stable.none fo_r12 t12 h6 (fun a7 w7 h7=>?_))
     have e1:List.map zah (suspTo ds (k+1))=List.map zah (suspTo ds k)++List.map zah d.suspensions:=by rw [zho,hd]; simp
     have h8:NowP w0 S0 κ0 K zaQ.fn.ntmps Y0 ⟨[fS4,fS9 R,fS10,fS11 k,fS12 d,fS34 ds,fS35 k],fM b gs (suspTo ds (k+1)) l⟩ a7 w7:=by unfold fM; rw [e1]; exact h7
     have hgl:gs.length=(zbW ds R k).length:=hp.length_eq; refine fo_range (g.cCount k d hd) (by omega) h8 (fun xs a9 w9 hx h9=>?_); refine hup a9 w9 (gs++xs) hlt ?_ h9; rw [zmg,hd]; exact hp.append hx
 · rw [decide_eq_false (by omega),iNs]; have:k=100:=by omega
   subst this; exact wp_exit (hQ _ _ _ hp (h2.trim Stable.none [4,9,10,34,35] [] (by cases b <;> kernel_rfl)))
abbrev stZ (b:Bool) (l:List zab) (ds:Desks) (R:Reop):St:=⟨[fS4,(5,I 0)],[(4,⟨2,zav,[[.row 301 8 0 (List.map za5 (isort zca (zbW ds R 100))).length,.row 302 12 0 (List.map zah (suspTo ds 100)).length]],true⟩),(301,⟨8,zaO,List.map za5 (isort zca (zbW ds R 100)),false⟩),(302,⟨12,zas,List.map zah (suspTo ds 100),false⟩)]++frM b 1001 l⟩
theorem fo_body {b:Bool} {s:zay} {l:List zab} {ds:Desks} {R:Reop} (g:FoLegs b s l ds R) (hl:(isort zca (zbW ds R 100)).length=(zbW ds R 100).length) (h:NowP w0 S0 κ0 K zaQ.fn.ntmps Y0 ⟨[(0,.agg (zau s)),fA b l],(frM b 1001 l)⟩ a w):foC.wp zaQ.P (PostC w0 S0 κ0 K zaQ.fn.ntmps .ret (stZ b l ds R)) a w:=by
 rw [fo_shape]; refine wp_seq (foStep Stable.none fo_r0 (f0 b s l) h (fun a1 w1 h1=>?_)); have t1:=f1 b s l; rw [g.cCheck,za0] at t1; refine wp_seq (wp_seq (foStep Stable.none fo_r1 t1 h1 (fun a2 w2 h2=>?_))); refine wp_cond (h2.bool (b:=false) rfl) ?_; rw [iNs]; refine wp_skip ?_; have h3:=h2.trim Stable.none [1,2,4] [] (st':=⟨[fA b l,fS2,fS4],[fB2 s,fB4]++frM b 1001 l⟩) (by cases b <;> kernel_rfl); have t3:=f3b b s l g.cCanon; refine wp_seq (foStep Stable.none fo_r3 t3 h3 (fun a4 w4 h4=>?_)); refine wp_seq (wp_seq (foStep Stable.none fo_r4 (f4 b s l (canonS l) 0) h4 (fun a5 w5 h5=>?_))); refine wp_cond (h5.bool (b:=false) rfl) ?_; rw [iNs]; refine wp_skip ?_; have h6:=h5.trim Stable.none [2,4,6] [] (st':=⟨[fS2,fS4,(6,.sl 9 (List.map zaa (canonS l)))],[fB2 s,fB4]++frM b 1001 l⟩) (by cases b <;> kernel_rfl); have t6:=f6 b s l (canonS l); rw [g.cWalk,zny] at t6; refine wp_seq (foStep Stable.none fo_r6 t6 h6 (fun a7 w7 h7=>?_)); refine wp_seq (foStep Stable.none fo_r7 (f7 b l (deskL ds) R) h7 (fun a8 w8 h8=>?_)); refine wp_seq (wp_seq (foStep Stable.none fo_r8 (f8 b l (deskL ds) R [] []) h8 (fun a9 w9 h9=>?_))); refine fo_loop g h9 (fun gs a10 w10 hp h10=>?_); have h11:=h10.trim Stable.none [4,10] [] (st':=⟨[fS4,fS10],fM b gs (suspTo ds 100) l⟩) (by cases b <;> kernel_rfl); have t18:=f18 b l gs (List.map zah (suspTo ds 100)); rw [show List.length (List.map za5 gs)=(List.map za5 gs).length from rfl,g.cSort gs hp,zhQ] at t18; refine wp_seq (foStep Stable.none fo_r18 t18 h11 (fun a12 w12 h12=>?_))
 have hlen:(List.map za5 gs).length=(List.map za5 (isort zca (zbW ds R 100))).length:=by rw [zap,zap,hp.length_eq,hl]
 rw [hlen] at h12; refine wp_seq (foStep Stable.none fo_r19 (f19 b l _ _) h12 (fun a13 w13 h13=>?_)); refine wp_ret ⟨rfl,?_⟩; obtain ⟨S,κ,hg,_⟩:=h13; exact ⟨S,κ,hg⟩
theorem zye:enters zaQ.P zbV=true:=by kernel_rfl
theorem fo_calls {b:Bool} {s:zay} {l:List zab} {ds:Desks} {R:Reop} (g:FoLegs b s l ds R) (hl:(isort zca (zbW ds R 100)).length=(zbW ds R 100).length) (w:World) (S:Nat→Prop) (κ:Kap) (vals:Array Value) (hvl:vals.size=2) (hS:∀ g,S g→g < w.heap.size)
  (hv:∀ (k:Nat) (a:AV) (x:Value),[AV.agg (zau s),frA b 1001 l][k]?=some a→vals[k]?=some x→VRel S κ (Dm (frM b 1001 l)) w a x)
  (hms:∀ d ent,Ab.look (frM b 1001 l) d=some ent→EntAt S κ (Dm (frM b 1001 l)) w (κ d) ent) (hinj:∀ d d' g c c',Dm (frM b 1001 l) d→Dm (frM b 1001 l) d'→κ d=some (g,c)→κ d'=some (g,c')→d=d'):Calls zaQ.P zbV vals w (Ab.Left S κ (frM b 1001 l) (frM b 1001 l) (.tup [.agg (zbM ⟨isort zca (zbW ds R 100),suspTo ds 100⟩),I 0]) w):=by
 have hf:zaQ.P.funcs[zbV]?=some zaQ.fn:=by kernel_rfl
 refine znz (args:=[AV.agg (zau s),frA b 1001 l]) (frz:=false) (ex:=.ret) (st:=stZ b l ds R) hf fo_hb (show 2≤zaQ.fn.ntmps by decide) hvl hS hv hms hinj (fun id=>by simp) (fun a hg=>?_) ?_ ?_ ?_
 · obtain ⟨S,κ,hg⟩:=hg; exact fo_body g hl ⟨S,κ,hg,trivial⟩
 · unfold stZ zbM; simp only; generalize List.map za5 (isort zca (zbW ds R 100))=xs; generalize List.map zah (suspTo ds 100)=ys; rw [show zfg zaQ.P false zaQ.fn ⟨[fS4,(5,I 0)],[(4,⟨2,zav,[[.row 301 8 0 xs.length,.row 302 12 0 ys.length]],true⟩),(301,⟨8,zaO,xs,false⟩),(302,⟨12,zas,ys,false⟩)]++frM b 1001 l⟩=outOf false ([(4,⟨2,zav,[[.row 301 8 0 xs.length,.row 302 12 0 ys.length]],true⟩),(301,⟨8,zaO,xs,false⟩),(302,⟨12,zas,ys,false⟩)]++frM b 1001 l) (.tup [.agg [.row 301 8 0 xs.length,.row 302 12 0 ys.length],I 0]) from by cases b <;> kernel_rfl]; simp [outOf,snap,mapO,Ab.look]
 · cases b <;> kernel_rfl
 · cases b <;> kernel_rfl
end
end
def markEv (s:zay) (i:Nat) (e:zab):Bool:=e.Kind == 0 && e.Stamp.Source.toNat == i && (fitS s e).isSome && (seedS s e.Script).isNone
theorem zng (ds:Desks) (i:Nat) (d:zaf):upd ds i d i=some d:=by simp [upd]
theorem znS (ds:Desks) {i j:Nat} (d:zaf) (h:j≠i):upd ds i d j=ds j:=by simp [upd,h]
theorem zvk (a:zaM) (d:zaf):(reinS a d).marks=d.marks:=by unfold reinS; split <;> rfl
theorem zvj (a:zaM) (d:zaf):(reinS a d).level=d.level:=by unfold reinS; split <;> rfl
theorem zt5 (p:Int) (f:Bool) (g:zaM) (i:Nat) (m:zbc):(voidIf p f g i m).event=m.event:=by unfold voidIf; split <;> rfl
theorem zAO (id:Int) (a:zaM) (d:zaf):(suspS id a d).marks.map (·.event)=d.marks.map (·.event):=by
 unfold suspS; simp only; apply zjF; intro j; rw [zcR,zcR,zjH]
 cases d.marks[j]? with
 | none=>rfl
 | some m=>simp [zt5]
theorem zAC (s:zay) (p:zaE) (sd:GSeed) (e:zab) (d:zaf):(noteS s p sd e d).marks.map (·.event)=d.marks.map (·.event):=by
 unfold noteS; split
 · rfl
 · simp only; split
   · rfl
   · split
     · rfl
     · split
       · rw [zAO]
       · split <;> rfl
theorem zAB (s:zay) (p:zaE) (sd:GSeed) (e:zab) (d:zaf):(noteS s p sd e d).level=d.level:=by
 unfold noteS; split
 · rfl
 · simp only; split
   · rfl
   · split
     · rfl
     · split
       · rfl
       · split <;> rfl
theorem evS_desk (s:zay) (st:Desks×Reop) (e:zab) (i:Nat):(∀ d,st.1 i=some d→∃ d',(evS s st e).1 i=some d'∧d'.marks.map (·.event)=d.marks.map (·.event)++(if markEv s i e then [e] else [])∧d'.level=d.level)∧(st.1 i=none→(evS s st e).1 i=none):=by
 have same:(evS s st e).1 i=st.1 i→markEv s i e=false→(∀ d,st.1 i=some d→∃ d',(evS s st e).1 i=some d'∧d'.marks.map (·.event)=d.marks.map (·.event)++(if markEv s i e then [e] else [])∧d'.level=d.level)∧(st.1 i=none→(evS s st e).1 i=none):=fun h1 h2=>⟨fun d hd=>⟨d,by rw [h1,hd],by rw [h2]; simp,rfl⟩,fun hn=>by rw [h1,hn]⟩
 by_cases k1:e.Kind=1
 · have hm:markEv s i e=false:=by unfold markEv; simp [k1]
   cases hd:st.1 e.Marker.toNat with
   | none=>exact same (by unfold evS; rw [if_pos k1]; simp only [hd]) hm
   | some d =>
     have he:(evS s st e).1=upd st.1 e.Marker.toNat (reinS e.Stamp d):=by unfold evS; rw [if_pos k1]; simp only [hd]
     by_cases hi:i=e.Marker.toNat
     · subst hi; refine ⟨fun d' hd'=>⟨_,by rw [he,zng],?_,?_⟩,fun hn=>by rw [hn] at hd; cases hd⟩
       · rw [hd] at hd'; injection hd' with hd'; subst hd'; rw [hm,zvk]; simp
       · rw [hd] at hd'; injection hd' with hd'; subst hd'; exact zvj _ _
     · exact same (by rw [he,znS _ _ hi]) hm
 by_cases k2:e.Kind=2
 · have hm:markEv s i e=false:=by unfold markEv; simp [k2]
   exact same (by unfold evS; rw [if_neg k1,if_pos k2]) hm
 by_cases k0:e.Kind=0
 case neg =>
  have hm:markEv s i e=false:=by unfold markEv; simp [k0]
  exact same (by unfold evS; rw [if_neg k1,if_neg k2,if_neg k0]) hm
 cases hd:st.1 e.Stamp.Source.toNat with
 | none =>
   have he:(evS s st e).1=st.1:=by unfold evS; rw [if_neg k1,if_neg k2,if_pos k0]; simp only [hd]
   refine ⟨fun d hd'=>⟨d,by rw [he,hd'],?_,rfl⟩,fun hn=>by rw [he,hn]⟩
   have:markEv s i e=false:=by
    unfold markEv
    have:(e.Stamp.Source.toNat == i)=false:=by rw [beq_eq_false_iff_ne]; intro h; rw [h] at hd; rw [hd] at hd'; cases hd'
    simp [this]
   rw [this]; simp
 | some d =>
   cases hf:fitS s e with
   | none =>
     have he:(evS s st e).1=st.1:=by unfold evS; rw [if_neg k1,if_neg k2,if_pos k0]; simp only [hd,hf]
     exact same (by rw [he]) (by unfold markEv; simp [hf])
   | some q =>
     obtain ⟨x,p,y,h1,h2,h3,h4,h5,h6,h7,h8⟩:=fitS_at hf; have hp:s.Papers[q]?=some p:=(zgV h3).1
     cases hs:seedS s e.Script with
     | some sd =>
       have he:(evS s st e).1=upd st.1 e.Stamp.Source.toNat (noteS s p sd e d):=by unfold evS; rw [if_neg k1,if_neg k2,if_pos k0]; simp only [hd,hf,hs,hp]
       have hm:markEv s i e=false:=by unfold markEv; simp [hs]
       by_cases hi:i=e.Stamp.Source.toNat
       · subst hi; refine ⟨fun d' hd'=>⟨_,by rw [he,zng],?_,?_⟩,fun hn=>by rw [hn] at hd; cases hd⟩
         · rw [hd] at hd'; injection hd' with hd'; subst hd'; rw [hm,zAC]; simp
         · rw [hd] at hd'; injection hd' with hd'; subst hd'; exact zAB _ _ _ _ _
       · exact same (by rw [he,znS _ _ hi]) hm
     | none =>
       have he:(evS s st e).1=upd st.1 e.Stamp.Source.toNat { d with marks:=d.marks++[⟨e,d.watch.Suspended⟩] }:=by unfold evS; rw [if_neg k1,if_neg k2,if_pos k0]; simp only [hd,hf,hs]
       by_cases hi:i=e.Stamp.Source.toNat
       · subst hi; have hm:markEv s e.Stamp.Source.toNat e=true:=by unfold markEv; simp [k0,hf,hs]
         refine ⟨fun d' hd'=>⟨_,by rw [he,zng],?_,?_⟩,fun hn=>by rw [hn] at hd; cases hd⟩
         · rw [hd] at hd'; injection hd' with hd'; subst hd'; rw [hm]; simp
         · rw [hd] at hd'; injection hd' with hd'; subst hd'; rfl
       · exact same (by rw [he,znS _ _ hi]) (by unfold markEv; simp [show ¬ e.Stamp.Source.toNat=i from fun h=>hi h.symm])
theorem zyH (s:zay):∀ (ev:List zab) (st:Desks×Reop) (i:Nat),(∀ d,st.1 i=some d→∃ d',(ev.foldl (evS s) st).1 i=some d'∧d'.marks.map (·.event)=d.marks.map (·.event)++ev.filter (markEv s i)∧d'.level=d.level)∧(st.1 i=none→(ev.foldl (evS s) st).1 i=none)
 | [],st,i=>⟨fun d hd=>⟨d,hd,by simp,rfl⟩,fun h=>h⟩
 | e :: r,st,i=>by obtain ⟨h1,h2⟩:=evS_desk s st e i; obtain ⟨h3,h4⟩:=zyH s r (evS s st e) i; refine ⟨fun d hd=>?_,fun hn=>h4 (h2 hn)⟩; obtain ⟨d',e1,e2,e3⟩:=h1 d hd; obtain ⟨d'',e4,e5,e6⟩:=h3 d' e1; refine ⟨d'',e4,?_,e6.trans e3⟩; rw [e5,e2,zgz,zmJ]; split <;> simp
theorem zp0 (ms:List zaU) (i:Nat):∀ d,seats ms i=some d→∃ m∈ms,m.ID.toNat=i∧d=desk0 m.Level:=by
 have key:∀ (ms:List zaU) (ds:Desks) d,(ms.foldl (fun ds m=>upd ds m.ID.toNat (desk0 m.Level)) ds) i=some d→ds i=some d∨∃ m∈ms,m.ID.toNat=i∧d=desk0 m.Level:=by
  intro ms
  induction ms with
  | nil=>intro ds d h; exact .inl h
  | cons m ms ih =>
    intro ds d h; rcases ih _ d h with h | ⟨m',h1,h2⟩
    · replace h:upd ds m.ID.toNat (desk0 m.Level) i=some d:=h; by_cases hi:i=m.ID.toNat
      · rw [hi,zng] at h; injection h with h; exact .inr ⟨m,by simp,hi.symm,h.symm⟩
      · rw [znS _ _ hi] at h; exact .inl h
    · exact .inr ⟨m',by simp [h1],h2⟩
 intro d h; rcases key ms (fun _=>none) d h with h | h
 · cases h
 · exact h
theorem zxD {s:zay} {ev:List zab} {i:Nat} {d:zaf} (h:(walkS s ev).1 i=some d):d.marks.map (·.event)=ev.filter (markEv s i):=by
 obtain ⟨h1,h2⟩:=zyH s ev (seats s.Markers,[]) i
 cases hs:seats s.Markers i with
 | none=>rw [show (walkS s ev).1 i=none from h2 hs] at h; cases h
 | some d0=>obtain ⟨d',e1,e2,_⟩:=h1 d0 hs; obtain ⟨m,_,_,hd0⟩:=zp0 _ _ _ hs; rw [show (walkS s ev).1 i=some d' from e1] at h; injection h with h; subst h; rw [e2,hd0]; simp [desk0]
theorem filters_le {α:Type} (p:Nat→α→Bool) (hp:∀ x i j,p i x=true→p j x=true→i=j):∀ (n:Nat) (l:List α),((List.range n).map fun i=>(l.filter (p i)).length).sum≤l.length:=by
 intro n l
 induction l with
 | nil =>
   simp only [List.filter_nil,zrv]
   induction n with
   | zero=>simp
   | succ n ih=>rw [zo0,zf9,zo1]; simp; omega
 | cons x r ih =>
   have:((List.range n).map fun i=>((x :: r).filter (p i)).length).sum≤((List.range n).map fun i=>(r.filter (p i)).length).sum+1:=by
    have key:∀ n,((List.range n).map fun i=>((x :: r).filter (p i)).length).sum=((List.range n).map fun i=>(r.filter (p i)).length).sum+(if ∃ i,i < n∧p i x=true then 1 else 0):=by
     intro n
     induction n with
     | zero=>simp
     | succ n ihn =>
       rw [zo0,zf9,zf9,zo1,zo1,ihn]; simp only [zco,List.map_nil,List.sum_cons,List.sum_nil,zkg,zmJ]; by_cases hn:p n x=true
       · rw [if_pos hn,if_neg (fun ⟨i,h1,h2⟩=>by have:=hp x i n h2 hn; omega),if_pos ⟨n,by omega,hn⟩]; simp only [zf5]; omega
       · rw [if_neg hn]; by_cases h:∃ i,i < n∧p i x=true
         · rw [if_pos h,if_pos (by obtain ⟨i,h1,h2⟩:=h; exact ⟨i,by omega,h2⟩)]; omega
         · rw [if_neg h,if_neg (fun ⟨i,h1,h2⟩=>by
            by_cases hi:i=n
            · rw [hi] at h2; exact hn h2
            · exact h ⟨i,by omega,h2⟩)]
           omega
    rw [key n]; split <;> omega
   simp only [zf5]; omega
theorem zu0 (d:zaf) (R:Reop):∀ (l:List zbc) (m:Counts),(l.foldl (zdG d R) m).length≤m.length+l.length
 | [],m=>by simp
 | x :: r,m=>by
   have h1:=zu0 d R r (zdG d R m x)
   have h2:(zdG d R m x).length≤m.length+1:=by
    unfold zdG; split
    · omega
    · split
      · omega
      · exact zsf
   simp only [zeP,zf5]; omega
theorem countS_len (d:zaf) (R:Reop):(countS d R).length≤d.marks.length:=by have:=zu0 d R d.marks []; simpa [countS] using this
theorem sum_flat {α:Type} (f:Nat→List α):∀ n,((List.range n).flatMap f).length=((List.range n).map fun i=>(f i).length).sum:=by intro n; rw [List.length_flatMap]
theorem sum_le_sum {f g:Nat→Nat} (h:∀ i,f i≤g i):∀ n,((List.range n).map f).sum≤((List.range n).map g).sum:=by
 intro n
 induction n with
 | zero=>simp
 | succ n ih=>rw [zo0,zf9,zf9,zo1,zo1]; have:=h n; simp; omega
theorem zqp (s:zay) (ev:List zab) (R:Reop) (n:Nat):(zbW (walkS s ev).1 R n).length≤ev.length:=by
 unfold zbW; rw [sum_flat]; refine zdy (sum_le_sum (g:=fun i=>(ev.filter (markEv s i)).length) (fun i=>?_) n) (filters_le (markEv s) (fun x i j h1 h2=>?_) n ev)
 · cases hd:(walkS s ev).1 i with
   | none=>simp
   | some d=>simp only [zap]; have h1:=countS_len d R; have h2:=congrArg List.length (zxD hd); simp only [zap] at h2; omega
 · unfold markEv at h1 h2; simp only [zbK,beq_iff_eq] at h1 h2; omega
def KeyedC (m:Counts):Prop:=(m.map (·.1)).Nodup∧∀ p∈m,p.1=⟨p.2.Script,p.2.Part⟩
theorem zzE (d:zaf) (R:Reop):KeyedC (countS d R):=by
 have key:∀ (l:List zbc) (m:Counts),KeyedC m→KeyedC (l.foldl (zdG d R) m):=by
  intro l
  induction l with
  | nil=>intro m h; exact h
  | cons x r ih =>
    intro m h; refine ih _ ?_; unfold zdG; split
    · exact h
    · split
      · exact h
      · refine ⟨(ztV h.1).1,fun p hp=>?_⟩; rcases zlw hp with rfl | hp
        · rfl
        · exact h.2 p hp
 exact key _ [] ⟨by simp,by simp⟩
theorem zpP {d:zaf} {R:Reop}:∀ {l:List zbc} {m:Counts} {p:zar×zab},p∈l.foldl (zdG d R) m→p∈m∨∃ x∈l,p.2=x.event∧x.void=false∧¬ (d.level < 2∧reopB R x.event=true)
 | [],m,p,h=>.inl h
 | x :: r,m,p,h=>by
   rcases zpP (l:=r) (m:=zdG d R m x) h with h | ⟨y,h1,h2⟩
   · unfold zdG at h; split at h
     · exact .inl h
     · split at h
       · exact .inl h
       · rename_i hv hr; rcases zlw h with rfl | h
         · exact .inr ⟨x,by simp,rfl,by simpa using hv,hr⟩
         · exact .inl h
   · exact .inr ⟨y,by simp [h1],h2⟩
theorem countS_mem {d:zaf} {R:Reop} {p:zar×zab} (h:p∈countS d R):∃ x∈d.marks,p.2=x.event∧x.void=false∧¬ (d.level < 2∧reopB R x.event=true):=by
 rcases zpP h with h | h
 · cases h
 · exact h
theorem znj {ds:Desks} {R:Reop} {n:Nat} {g:zbp}:g∈zbW ds R n↔∃ i,i < n∧∃ d,ds i=some d∧∃ p∈countS d R,g=zbZ i d p.2:=by
 unfold zbW; rw [zce]; constructor
 · rintro ⟨i,hi,hg⟩
   cases hd:ds i with
   | none=>rw [hd] at hg; cases hg
   | some d=>rw [hd] at hg; obtain ⟨p,hp,rfl⟩:=zbC.1 hg; exact ⟨i,zhC.1 hi,d,hd,p,hp,rfl⟩
 · rintro ⟨i,hi,d,hd,p,hp,rfl⟩
   refine ⟨i,zhC.2 hi,?_⟩; rw [hd]; exact zbC.2 ⟨p,hp,rfl⟩
theorem given_inj {ds:Desks} {R:Reop} {n:Nat} {a b:zbp} (ha:a∈zbW ds R n) (hb:b∈zbW ds R n) (h1:a.Script=b.Script) (h2:a.Part=b.Part) (h3:a.Marker=b.Marker):a=b:=by
 obtain ⟨i,hi,d,hd,p,hp,rfl⟩:=znj.1 ha; obtain ⟨j,hj,f,hf,q,hq,rfl⟩:=znj.1 hb; unfold zbZ at h1 h2 h3; simp only at h1 h2 h3; have:i=j:=by omega
 subst this; rw [hd] at hf; injection hf with hf; subst hf; obtain ⟨k1,k2⟩:=zzE d R; have e:p.1=q.1:=by rw [k2 p hp,k2 q hq,h1,h2]
 have:p=q:=by
  have:∀ {l:Counts},(l.map (·.1)).Nodup→p∈l→q∈l→p=q:=by
   intro l
   induction l with
   | nil=>intro _ h; cases h
   | cons x r ih =>
     intro hn h1 h2; obtain ⟨n1,n2⟩:=zfD.1 hn; rcases za1.1 h1 with e1 | h1
     · rcases za1.1 h2 with e2 | h2
       · rw [e1,e2]
       · exact absurd (zbC.2 ⟨q,h2,by rw [← e,e1]⟩) n1
     · rcases za1.1 h2 with e2 | h2
       · exact absurd (zbC.2 ⟨p,h1,by rw [e,e2]⟩) n1
       · exact ih n2 h1 h2
  exact this k1 hp hq
 rw [this]
set_option maxRecDepth 10000
theorem ev_inj {l l':List zab} (h:List.map zaa l=List.map zaa l'):l=l':=Eq.mp (TyD.minj zaB) h
theorem canon_ok:CallOK zP (single zbj zOrc):=by
 intro f args ms r ms' h; unfold single at h; split at h
 case isFalse=>cases h
 rename_i hf; subst hf
 cases ms with
 | nil =>
   have hz:zOrc zbj args []=zrj args:=by unfold zOrc; simp (decide:=true) only [if_false,if_true]
   rw [hz] at h; clear hz; unfold zrj at h; split at h
   case isFalse=>cases h
   rename_i hex; have hsp:=hex.choose_spec; generalize hex.choose=l at h hsp; obtain ⟨rfl,hl⟩:=hsp; injection h with h; injection h with h1 h2; subst h1 h2; refine ⟨zx9,fun w S κ vals hvl hS hv hms hinj=>?_⟩; exact cn_calls (cnLegs false hl) w S κ vals hvl hS hv hms hinj
 | cons a m =>
   have hz:zOrc zbj args (a :: m)=oCanon args (a :: m):=by unfold zOrc; simp (decide:=true) only [if_false,if_true]
   rw [hz] at h; clear hz; unfold oCanon at h; split at h
   case isFalse=>cases h
   rename_i hex; have hsp:=hex.choose_spec; generalize hex.choose=l at h hsp; obtain ⟨⟨ha,hm⟩,hl⟩:=hsp; subst ha; rw [hm] at h ⊢; injection h with h; injection h with h1 h2; subst h1 h2; refine ⟨zx9,fun w S κ vals hvl hS hv hms hinj=>?_⟩; exact cn_calls (cnLegs true hl) w S κ vals hvl hS hv hms hinj
theorem c_canon (b:Bool) {l:List zab} (h:FewEv l):cw zbj [frA b 1000 l] (frM b 1000 l)=some (bif b then zdw ((canonS l,0),l) else zeT (canonS l,0)):=by
 cases b with
 | true =>
   refine zoK canon_ok ?_; show zOrc zbj [(lentEv 1000 l).1] (lentEv 1000 l).2=_
   have hz:zOrc zbj [(lentEv 1000 l).1] (lentEv 1000 l).2=oCanon [(lentEv 1000 l).1] (lentEv 1000 l).2:=by unfold zOrc; simp (decide:=true) only [if_false,if_true]; rfl
   rw [hz]; unfold oCanon; have hex:∃ l',([(lentEv 1000 l).1]=[(lentEv 1000 l').1]∧(lentEv 1000 l).2=(lentEv 1000 l').2)∧FewEv l':=⟨l,⟨rfl,rfl⟩,h⟩
   rw [dif_pos hex]; have hsp:=hex.choose_spec; generalize hex.choose=l' at hsp
   have:l=l':=by have h2:=hsp.1.2; unfold lentEv at h2; simp only [zbm,zaG,Ent.mk.injEq,true_and,and_true] at h2; exact ev_inj h2
   subst this; rfl
 | false =>
   refine zoK canon_ok ?_; show zOrc zbj [.sl 9 (List.map zaa l)] []=_
   have hz:zOrc zbj [.sl 9 (List.map zaa l)] []=zrj [.sl 9 (List.map zaa l)]:=by unfold zOrc; simp (decide:=true) only [if_false,if_true]
   rw [hz]; unfold zrj; have hex:∃ l',[AV.sl 9 (List.map zaa l)]=[AV.sl 9 (List.map zaa l')]∧FewEv l':=⟨l,rfl,h⟩
   rw [dif_pos hex]; have hsp:=hex.choose_spec; generalize hex.choose=l' at hsp
   have:l=l':=by have h2:=hsp.1; simp only [zbm,AV.sl.injEq,true_and,and_true] at h2; exact ev_inj h2
   subst this; rfl
theorem c_walk {s:zay} {ev:List zab} (h:OkRun s ev):cw zcH [.agg (zau s),.sl 9 (List.map zaa ev)] []=some (zhK (deskL (walkS s ev).1,(walkS s ev).2)):=by
 refine zoK (walk_ok ci_ok cb_ok) ?_; show zOrc zcH [.agg (zau s),.sl 9 (List.map zaa ev)] []=_
 have hz:zOrc zcH [.agg (zau s),.sl 9 (List.map zaa ev)] []=oWalk [.agg (zau s),.sl 9 (List.map zaa ev)]:=by unfold zOrc; simp (decide:=true) only [if_false,if_true]
 rw [hz]; unfold oWalk; have hex:∃ s' ev',[AV.agg (zau s),AV.sl 9 (List.map zaa ev)]=[.agg (zau s'),.sl 9 (List.map zaa ev')]∧OkRun s' ev':=⟨s,ev,rfl,h⟩
 rw [dif_pos hex]; have hsp:=hex.choose_spec.choose_spec; generalize hex.choose_spec.choose=ev' at hsp; generalize hex.choose=s' at hsp; obtain ⟨h1,_⟩:=hsp; simp only [zbm,AV.agg.injEq,AV.sl.injEq,true_and,and_true] at h1; obtain ⟨h1,h2⟩:=h1; have e1:s=s':=zhE.inj h1; have e2:ev=ev':=ev_inj h2; subst e1 e2; rfl
theorem zzy (R:Reop) (e:zab):cw zh9 [.mp (List.map zal R),.agg (zaa e)] []=some (zam (reopB R e)):=by
 refine zrZ R e ?_; have last:zdm R e 2=some (zam false):=zhp _ _ _ (by rw [zaT (by omega)]; rfl)
 have one:zdm R e 1=some (zam (match mfind ⟨e.Script,-1⟩ R with | some a=>lessS e.Stamp a | none=>false)):=by
  refine zhp _ _ _ ?_; rw [zaF (by omega),cPQ,show [zaX.enc e.Part,zaX.enc (-1)]=List.map zak [e.Part,-1] from rfl,zcO]; simp only [show (1:Int).toNat=1 from rfl,zmL,ze5,zaY]; rw [zhr,w6Q,show (1:Int)+1=2 from rfl,last]
  cases mfind ⟨e.Script,-1⟩ R with
  | none=>rfl
  | some a=>simp only [zmH,zaI,ziP]; rw [zqX,za0,zpd]; cases lessS e.Stamp a <;> rfl
 refine zhp _ _ _ ?_; rw [zaF (by omega),cPQ,show [zaX.enc e.Part,zaX.enc (-1)]=List.map zak [e.Part,-1] from rfl,zcO]; simp only [show (0:Int).toNat=0 from rfl,ze5,zaY]; rw [zhr,w6Q,show (0:Int)+1=1 from rfl,one]; unfold reopB
 cases mfind ⟨e.Script,e.Part⟩ R with
 | none=>rw [zqN]; rfl
 | some a =>
   simp only [zmH,zaI,ziP]; rw [zqX,za0,zpd]
   cases lessS e.Stamp a with
   | true=>rfl
   | false=>rw [zqN]; rfl
theorem zwQ (d:zaf) (R:Reop) (hl:d.marks.length≤1000000):cw zdb [.fp (zcW d),.mp (List.map zal R)] []=some (zcF (countS d R)):=by
 refine zpD d R ?_
 have key:∀ (n i:Nat) (m:Counts),i+n=d.marks.length→zcd d R (List.map zbz m) i=some (zcF ((d.marks.drop i).foldl (zdG d R) m)):=by
  intro n
  induction n with
  | zero=>intro i m hi; refine zjv _ _ _ _ ?_; rw [zap,zaT (by omega),zjG (by omega)]; rfl
  | succ n ih =>
    intro i m hi; have hlt:i < d.marks.length:=by omega
    refine zjv _ _ _ _ ?_; rw [zap,zaF (by omega),cPQ,za4,zgH,zaC hlt,zaY,w6Q,show ((i:Int)+1)=((i+1:Nat):Int) by omega,zf8 hlt,zeP]
    have put:msetD zP 117 64 (.agg (zcI.enc ⟨d.marks[i].event.Script,d.marks[i].event.Part⟩)) (.agg (zaa d.marks[i].event)) (List.map zbz m) (fun m4=>zcd d R m4 ((i+1:Nat):Int)) =
      some (zcF ((d.marks.drop (i+1)).foldl (zdG d R) (mput ⟨d.marks[i].event.Script,d.marks[i].event.Part⟩ d.marks[i].event m))):=by
     rw [show (AV.agg (zcI.enc ⟨d.marks[i].event.Script,d.marks[i].event.Part⟩))=.agg (zbd ⟨d.marks[i].event.Script,d.marks[i].event.Part⟩) from rfl,zk9]; exact ih (i+1) _ (by omega)
    unfold zdG
    cases hv:d.marks[i].void with
    | true=>rw [zaI,if_pos rfl]; exact ih (i+1) m (by omega)
    | false =>
      rw [zaw,iNs,zaV]; by_cases hlv:d.level < 2
      · rw [if_pos hlv,zzy,zai]
        cases hr:reopB R d.marks[i].event with
        | true=>rw [zaI,if_pos ⟨hlv,rfl⟩]; exact ih (i+1) m (by omega)
        | false=>rw [zaw,iNs]; exact put
      · rw [if_neg hlv,if_neg (fun h=>hlv h.1)]; exact put
 exact key d.marks.length 0 [] (by omega)
theorem zxN (a b:zbp):∃ v:Int,cw zeb [.agg (za5 a),.agg (za5 b)] []=some (zbf v)∧decide (v < 0)=zca a b:=by
 refine ⟨ziW [cmpI a.Script b.Script,cmpI a.Part b.Part,cmpI a.Marker b.Marker],zqh a b ?_,?_⟩
 · rw [c_cmp,za0,c_cmp,za0,c_cmp,za0,c_Or _ (by simp),za0]; rfl
 · unfold cmpI zca; simp only [ziW]
   repeat' split
   all_goals first | omega | (simp_all; done) | (simp_all; omega) | (simp; omega)
theorem zyZ {a b:zbp} (h:zca a b=true):zca b a=false:=by
 unfold zca at h ⊢
 grind
theorem zrb {a b c:zbp} (h1:zca b a=false) (h2:zca c b=false):zca c a=false:=by
 unfold zca at h1 h2 ⊢
 grind
theorem givenLt_eq {a b:zbp} (h1:zca a b=false) (h2:zca b a=false):a.Script=b.Script∧a.Part=b.Part∧a.Marker=b.Marker:=by
 unfold zca at h1 h2
 grind
theorem swoG:Go.Sort.SWO zca where
 irrefl:=fun x=>by unfold zca; simp
 trans:=fun x y z h1 h2=>by unfold zca at h1 h2 ⊢; grind
 ntrans:=fun x y z h1 h2=>zrb h2 h1
theorem cmpG:SX.Cmp (S:=sgG) zca (fun _=>True) where
 ans:=fun x y _ _=>zxN x y
theorem okRun {s:zay} (hs:zdl s) {l:List zab} (h:FewEv l):OkRun s (canonS l):=
 ⟨hs,fun e he=>(keep_mem ((zee l).mem_iff.1 he)).1,by have:=(zee l).length_eq; have:=h.2.1; omega⟩
theorem zq2 {s:zay} (hs:zdl s):∀ (ev:List zab) {i:Nat} {d:zaf},(walkS s ev).1 i=some d→DeskOk s.Monitor ev.length d:=by
 have key:∀ (ev:List zab) (k:Nat) (st:Desks×Reop),(∀ i d,st.1 i=some d→DeskOk s.Monitor k d)→∀ i d,(ev.foldl (evS s) st).1 i=some d→DeskOk s.Monitor (k+ev.length) d:=by
  intro ev
  induction ev with
  | nil=>intro k st h; exact h
  | cons e r ih =>
    intro k st h i d hd; have:=ih (k+1) (evS s st e) ?_ i d hd
    · rw [zf5,show k+(r.length+1)=k+1+r.length by omega]; exact this
    · intro j f hj; have up:∀ x,(∀ g,st.1 x=some g→DeskOk s.Monitor (k+1) g):=fun x g hg=>(h x g hg).up
      unfold evS at hj; split at hj
      · split at hj
        · rename_i d0 hd0; unfold upd at hj; simp only at hj; split at hj
          · injection hj with hj; rw [← hj]; exact (h _ _ hd0).rein hs.monitor _
          · exact up _ _ hj
        · exact up _ _ hj
      · split at hj
        · exact up _ _ hj
        · split at hj
          · split at hj
            · rename_i d0 q hd0 _; split at hj
              · unfold upd at hj; simp only at hj; split at hj
                · injection hj with hj; rw [← hj]; exact (h _ _ hd0).note rfl _ _ _
                · exact up _ _ hj
              · unfold upd at hj; simp only at hj; split at hj
                · injection hj with hj; rw [← hj]; exact (h _ _ hd0).app _
                · exact up _ _ hj
              · exact up _ _ hj
            · exact up _ _ hj
          · exact up _ _ hj
 intro ev i d hd
 have:=key ev 0 (seats s.Markers,[]) (fun i d h=>by
  obtain ⟨m,_,_,rfl⟩:=zp0 _ _ _ h
  exact DeskOk.zero hs.monitor _) i d hd
 simpa using this
theorem zxA {s:zay} (hs:zdl s) (ev:List zab):∀ n,(suspTo (walkS s ev).1 n).length≤n*ev.length:=by
 intro n
 induction n with
 | zero=>simp [suspTo]
 | succ n ih =>
   rw [zho,zep,zoz]
   cases hd:(walkS s ev).1 n with
   | none=>simp; omega
   | some d=>have:=(zq2 hs ev hd).susp; simp; omega
theorem foLegs (b:Bool) {s:zay} (hs:zdl s) {l:List zab} (h:FewEv l):FoLegs b s l (walkS s (canonS l)).1 (walkS s (canonS l)).2 where
 cCheck:=zpM hs
 cCanon:=c_canon b h
 cWalk:=c_walk (okRun hs h)
 cCount:=fun i d hd=>zwQ d _ (by
  have h1:=(zq2 hs _ hd).marks; have h2:=(okRun hs h).2.2
  omega)
 cSort:=fun gs hp=>by
  have h1:=zqp s (canonS l) (walkS s (canonS l)).2 100; have h2:=(zee l).length_eq; have h3:=h.2.1; have h4:=hp.length_eq; have hgl:gs.length < 256:=by omega
  obtain ⟨l',e1,e2,e3⟩:=SX.c_SortFunc (S:=sgG) cmpG swoG gs (fun _ _=>trivial) hgl
  have:l'=isort zca (zbW (walkS s (canonS l)).1 (walkS s (canonS l)).2 100):=
   zli (lt:=zca) ((e2.trans hp).trans (zid _).symm) e3 (zpo (lt:=zca) (fun _ _ _ h1 h2=>zrb h1 h2) (fun _ _ h=>zyZ h) _) (fun a ha b hb h1 h2=>by
    have q:=givenLt_eq h1 h2
    exact given_inj ((e2.trans hp).mem_iff.1 ha) ((e2.trans hp).mem_iff.1 hb) q.1 q.2.1 q.2.2)
  rw [this] at e1; exact e1
 few:=by have h1:=zqp s (canonS l) (walkS s (canonS l)).2 100; have h2:=(zee l).length_eq; have h3:=h.2.1; omega
 fewS:=by have h1:=zxA hs (canonS l) 100; have h2:=(zee l).length_eq; have h3:=h.2.1; omega
theorem ziX (s:zay) (l:List zab):foldS s l=⟨isort zca (zbW (walkS s (canonS l)).1 (walkS s (canonS l)).2 100),suspTo (walkS s (canonS l)).1 100⟩:=rfl
theorem fold_ok:CallOK zP (single zbV zOrc):=by
 intro f args ms r ms' h; unfold single at h; split at h
 case isFalse=>cases h
 rename_i hf; subst hf
 cases ms with
 | nil =>
   have hz:zOrc zbV args []=oFoldD args:=by unfold zOrc; simp (decide:=true) only [if_false,if_true]
   rw [hz] at h; clear hz; unfold oFoldD at h; split at h
   case isFalse=>cases h
   rename_i hex; have hsp:=hex.choose_spec.choose_spec; generalize hex.choose_spec.choose=l at h hsp; generalize hex.choose=s at h hsp; obtain ⟨rfl,hs,hl⟩:=hsp; injection h with h; injection h with h1 h2; subst h1 h2; refine ⟨zye,fun w S κ vals hvl hS hv hms hinj=>?_⟩; exact fo_calls (foLegs false hs hl) (zid _).length_eq w S κ vals hvl hS hv hms hinj
 | cons a m =>
   have hz:zOrc zbV args (a :: m)=oFold args (a :: m):=by unfold zOrc; simp (decide:=true) only [if_false,if_true]
   rw [hz] at h; clear hz; unfold oFold at h; split at h
   case isFalse=>cases h
   rename_i hex; have hsp:=hex.choose_spec.choose_spec; generalize hex.choose_spec.choose=l at h hsp; generalize hex.choose=s at h hsp; obtain ⟨⟨ha,hm⟩,hs,hl⟩:=hsp; subst ha; rw [hm] at h ⊢; injection h with h; injection h with h1 h2; subst h1 h2; refine ⟨zye,fun w S κ vals hvl hS hv hms hinj=>?_⟩; exact fo_calls (foLegs true hs hl) (zid _).length_eq w S κ vals hvl hS hv hms hinj
theorem zo7 {s:zay} (hs:zdl s) {l:List zab} (h:FewEv l):cw zbV [.agg (zau s),.row 1001 9 0 (List.map zaa l).length] [(1001,⟨9,zac,List.map zaa l,false⟩)]=some (zm8 ((foldS s l,0),l)):=by
 refine zoK fold_ok ?_; show zOrc zbV [.agg (zau s),(lentEv 1001 l).1] (lentEv 1001 l).2=_
 have hz:zOrc zbV [.agg (zau s),(lentEv 1001 l).1] (lentEv 1001 l).2=oFold [.agg (zau s),(lentEv 1001 l).1] (lentEv 1001 l).2:=by unfold zOrc; simp (decide:=true) only [if_false,if_true]; rfl
 rw [hz]; unfold oFold; have hex:∃ s' l',([.agg (zau s),(lentEv 1001 l).1]=[.agg (zau s'),(lentEv 1001 l').1]∧(lentEv 1001 l).2=(lentEv 1001 l').2)∧zdl s'∧FewEv l':=⟨s,l,⟨rfl,rfl⟩,hs,h⟩
 rw [dif_pos hex]; have hsp:=hex.choose_spec.choose_spec; generalize hex.choose_spec.choose=l' at hsp; generalize hex.choose=s' at hsp; obtain ⟨⟨h1,h2⟩,_⟩:=hsp
 have e2:l=l':=by unfold lentEv at h2; simp only [zbm,zaG,Ent.mk.injEq,true_and,and_true] at h2; exact ev_inj h2
 simp only [zbm,AV.agg.injEq] at h1; have e1:s=s':=zhE.inj h1.1; subst e1 e2; rfl
end Go.Proofs.YtikogkgdkdmljaaGreat
end
