/- The two sorts: of events and of marks that count. -/
import Derived.Test.YtikogkgdkdmljaaGreatJ3
import Derived.Test.YtikogkgdkdmljaaGreatK5
import Derived.Test.YtikogkgdkdmljaaGreatJ2
import Derived.Test.YtikogkgdkdmljaaGreatXAnn
import Derived.Test.YtikogkgdkdmljaaGreatAb10
import Derived.Control
set_option linter.unusedSimpArgs false
set_option linter.unusedVariables false
noncomputable section
namespace Go.Proofs.YtikogkgdkdmljaaGreat
open Go.Ab
def sgG:SX.Sg:={ D:=zb3,z:=8,ty:=zaN,fc:=zed,inh:=⟨0,0,0,0,0,⟨0,0,0⟩⟩,so:=zjh,pi:=zgn,is:=zik,pd:=zkO,hs:=zkz,bp:=zij,cp:=zji,rr:=ziP,pe:=zhP,pa:=zj4,sd:=zkA,ma:=zhO,md:=zk8,o2:=zk9 }
instance:Nonempty (SX.Lw sgG):=⟨⟨fun _ _ h=>SX.cwQ sgG.so [] h,fun _ _ _ _ _ _ _ _ h=>SX.ptQ [20,17,15,10] h,fun _ _ _ _ _ _ _ _ h=>SX.ptQ [20,17,15,10] h,fun _ _ _ _ _ _ _ _ h=>SX.ptQ [20,17,15,10] h,fun _ _ _ _ _ _ _ _ _ h=>SX.ptQ [20,17,15,10] h,fun _ _ _ _ _ _ _ _ _ _ h=>SX.ptQ [20,17,15,10] h,fun _ _ _ _ _ _ _ _ _ h=>SX.ptQ [20,17,15,10] h,fun _ _ _ _ _ _ _ _ _ h=>SX.ptQ [20,17,15,10] h,fun _ _ _ _ _ _ _ _ _ h=>SX.ptQ [20,17,15,10] h,fun _ _ _ _ _ h=>SX.cwQ sgG.pd [20,17,15,10] h,fun _ _ _ _ _ _ h=>SX.ptQ [] h,fun _ _ _ _ _ _ _ h=>SX.ptQ [] h,fun _ _ _ _ h=>SX.cwQ sgG.is [] h,fun _ _ _ _ _ _ h=>SX.ptQ [] h,fun _ _ _ _ _ h=>SX.ptQ [] h,fun _ _ _ _ h=>SX.cwQ sgG.hs [] h,fun _ _ _ _ _ _ _ _ h=>SX.ptQ [10] h,fun _ _ _ _ _ _ _ _ h=>SX.ptQ [10] h,fun _ _ _ _ _ _ _ _ h=>SX.ptQ [10] h,fun _ _ _ _ h=>SX.cwQ sgG.bp [10] h,fun _ _ _ _ _ h=>SX.ptQ [11] h,fun _ _ _ _ h=>SX.ptQ [11] h,fun _ _ _ _ h=>SX.cwQ sgG.cp [11] h,fun _ _ _ _ _ h=>SX.ptQ [] h,fun _ _ _ _ h=>SX.cwQ sgG.rr [] h,fun _ _ _ _ _ _ _ h=>SX.ptQ [7] h,fun _ _ _ _ _ _ _ h=>SX.ptQ [7] h,fun _ _ _ _ _ _ _ h=>SX.ptQ [7] h,fun _ _ _ _ _ _ _ h=>SX.ptQ [7] h,fun _ _ _ _ _ _ _ _ h=>SX.ptQ [7] h,fun _ _ _ _ _ _ _ _ h=>SX.ptQ [7] h,fun _ _ _ _ h=>SX.cwQ sgG.pi [7] h,fun _ _ _ _ _ _ h=>SX.ptQ [7] h,fun _ _ _ _ _ _ h=>SX.ptQ [7] h,fun _ _ _ _ _ _ h=>SX.ptQ [7] h,fun _ _ _ _ _ _ h=>SX.ptQ [7] h,fun _ _ _ _ _ _ h=>SX.ptQ [7] h,fun _ _ _ _ _ h=>SX.cwQ sgG.pe [7] h,fun _ _ _ _ _ _ _ _ _ _ h=>SX.ptQ [17,7] h,fun _ _ _ _ _ _ _ _ _ _ h=>SX.ptQ [17,7] h,fun _ _ _ _ _ _ _ _ _ _ _ h=>SX.ptQ [17,7] h,fun _ _ _ _ _ _ _ _ _ _ _ h=>SX.ptQ [17,7] h,fun _ _ _ _ _ _ h=>SX.ptQ [17,7] h,fun _ _ _ _ _ _ h=>SX.ptQ [17,7] h,fun _ _ _ _ _ _ h=>SX.ptQ [17,7] h,fun _ _ _ _ _ _ h=>SX.ptQ [17,7] h,fun _ _ _ _ _ _ h=>SX.ptQ [17,7] h,fun _ _ _ _ _ h=>SX.cwQ sgG.pa [17,7] h,fun _ _ _ _ _ _ h=>SX.ptQ [5] h,fun _ _ _ _ _ _ h=>SX.ptQ [5] h,fun _ _ _ _ _ _ h=>SX.ptQ [5] h,fun _ _ _ _ _ h=>SX.cwQ sgG.sd [5] h,fun _ _ _ _ h=>SX.cwQ sgG.ma [] h,fun _ _ _ _ _ _ h=>SX.cwQ sgG.md [] h,fun _ _ _ _ _ h=>SX.cwQ sgG.o2 [] h⟩⟩
def sgE:SX.Sg:={ D:=zaz,z:=9,ty:=zac,fc:=zep,inh:=⟨⟨0,0,0⟩,0,0,0,0,0,[]⟩,so:=zgw,pi:=zfO,is:=zhi,pd:=zjj,hs:=ziO,bp:=zhh,cp:=zhD,rr:=zhq,pe:=zg0,pa:=zil,sd:=ziQ,ma:=zgZ,md:=zjm,o2:=zjn }
instance:Nonempty (SX.Lw sgE):=⟨⟨fun _ _ h=>SX.cwQ sgE.so [] h,fun _ _ _ _ _ _ _ _ h=>SX.ptQ [20,17,15,10] h,fun _ _ _ _ _ _ _ _ h=>SX.ptQ [20,17,15,10] h,fun _ _ _ _ _ _ _ _ h=>SX.ptQ [20,17,15,10] h,fun _ _ _ _ _ _ _ _ _ h=>SX.ptQ [20,17,15,10] h,fun _ _ _ _ _ _ _ _ _ _ h=>SX.ptQ [20,17,15,10] h,fun _ _ _ _ _ _ _ _ _ h=>SX.ptQ [20,17,15,10] h,fun _ _ _ _ _ _ _ _ _ h=>SX.ptQ [20,17,15,10] h,fun _ _ _ _ _ _ _ _ _ h=>SX.ptQ [20,17,15,10] h,fun _ _ _ _ _ h=>SX.cwQ sgE.pd [20,17,15,10] h,fun _ _ _ _ _ _ h=>SX.ptQ [] h,fun _ _ _ _ _ _ _ h=>SX.ptQ [] h,fun _ _ _ _ h=>SX.cwQ sgE.is [] h,fun _ _ _ _ _ _ h=>SX.ptQ [] h,fun _ _ _ _ _ h=>SX.ptQ [] h,fun _ _ _ _ h=>SX.cwQ sgE.hs [] h,fun _ _ _ _ _ _ _ _ h=>SX.ptQ [10] h,fun _ _ _ _ _ _ _ _ h=>SX.ptQ [10] h,fun _ _ _ _ _ _ _ _ h=>SX.ptQ [10] h,fun _ _ _ _ h=>SX.cwQ sgE.bp [10] h,fun _ _ _ _ _ h=>SX.ptQ [11] h,fun _ _ _ _ h=>SX.ptQ [11] h,fun _ _ _ _ h=>SX.cwQ sgE.cp [11] h,fun _ _ _ _ _ h=>SX.ptQ [] h,fun _ _ _ _ h=>SX.cwQ sgE.rr [] h,fun _ _ _ _ _ _ _ h=>SX.ptQ [7] h,fun _ _ _ _ _ _ _ h=>SX.ptQ [7] h,fun _ _ _ _ _ _ _ h=>SX.ptQ [7] h,fun _ _ _ _ _ _ _ h=>SX.ptQ [7] h,fun _ _ _ _ _ _ _ _ h=>SX.ptQ [7] h,fun _ _ _ _ _ _ _ _ h=>SX.ptQ [7] h,fun _ _ _ _ h=>SX.cwQ sgE.pi [7] h,fun _ _ _ _ _ _ h=>SX.ptQ [7] h,fun _ _ _ _ _ _ h=>SX.ptQ [7] h,fun _ _ _ _ _ _ h=>SX.ptQ [7] h,fun _ _ _ _ _ _ h=>SX.ptQ [7] h,fun _ _ _ _ _ _ h=>SX.ptQ [7] h,fun _ _ _ _ _ h=>SX.cwQ sgE.pe [7] h,fun _ _ _ _ _ _ _ _ _ _ h=>SX.ptQ [17,7] h,fun _ _ _ _ _ _ _ _ _ _ h=>SX.ptQ [17,7] h,fun _ _ _ _ _ _ _ _ _ _ _ h=>SX.ptQ [17,7] h,fun _ _ _ _ _ _ _ _ _ _ _ h=>SX.ptQ [17,7] h,fun _ _ _ _ _ _ h=>SX.ptQ [17,7] h,fun _ _ _ _ _ _ h=>SX.ptQ [17,7] h,fun _ _ _ _ _ _ h=>SX.ptQ [17,7] h,fun _ _ _ _ _ _ h=>SX.ptQ [17,7] h,fun _ _ _ _ _ _ h=>SX.ptQ [17,7] h,fun _ _ _ _ _ h=>SX.cwQ sgE.pa [17,7] h,fun _ _ _ _ _ _ h=>SX.ptQ [5] h,fun _ _ _ _ _ _ h=>SX.ptQ [5] h,fun _ _ _ _ _ _ h=>SX.ptQ [5] h,fun _ _ _ _ _ h=>SX.cwQ sgE.sd [5] h,fun _ _ _ _ h=>SX.cwQ sgE.ma [] h,fun _ _ _ _ _ _ h=>SX.cwQ sgE.md [] h,fun _ _ _ _ _ h=>SX.cwQ sgE.o2 [] h⟩⟩
set_option maxRecDepth 10000
section
variable {α:Type} {lt:α→α→Bool}
theorem zvt (x:α):∀ l:List α,List.Perm (ins lt x l) (x :: l)
 | []=>zq1 _
 | y :: r=>by
   unfold ins; split
   · exact zq1 _
   · exact ((zvt x r).cons y).trans (List.Perm.swap x y r)
theorem zdx:∀ l:List α,List.Perm (isort lt l) l
 | []=>zq1 _
 | x :: r=>(zvt x (isort lt r)).trans ((zdx r).cons x)
theorem zwz (ht:∀ a b c,lt b a=false→lt c b=false→lt c a=false) (ha:∀ a b,lt a b=true→lt b a=false) (x:α):∀ l:List α,l.Pairwise (fun a b=>lt b a=false)→(ins lt x l).Pairwise (fun a b=>lt b a=false)
 | [],_=>by simp [ins]
 | y :: r,h=>by
   unfold ins; split
   · rename_i hxy; refine zlc.2 ⟨fun z hz=>?_,h⟩; rcases zaZ.1 hz with rfl | hz
     · exact ha _ _ hxy
     · exact ht _ _ _ (ha _ _ hxy) ((zlc.1 h).1 z hz)
   · rename_i hxy; obtain ⟨h1,h2⟩:=zlc.1 h; refine zlc.2 ⟨fun z hz=>?_,zwz ht ha x r h2⟩; rcases zaZ.1 ((zvt x r).mem_iff.1 hz) with rfl | hz
     · simpa using hxy
     · exact h1 z hz
theorem zjJ (ht:∀ a b c,lt b a=false→lt c b=false→lt c a=false) (ha:∀ a b,lt a b=true→lt b a=false):∀ l:List α,(isort lt l).Pairwise (fun a b=>lt b a=false)
 | []=>List.Pairwise.nil
 | x :: r=>zwz ht ha x _ (zjJ ht ha r)
theorem zgu:∀ {l1 l2:List α},List.Perm l1 l2→l1.Pairwise (fun a b=>lt b a=false)→l2.Pairwise (fun a b=>lt b a=false)→(∀ a∈l1,∀ b∈l1,lt a b=false→lt b a=false→a=b)→l1=l2
 | [],l2,hp,_,_,_=>(List.nil_perm.1 hp).symm
 | x :: r,l2,hp,h1,h2,ha=>by
   cases l2 with
   | nil=>exact absurd hp.length_eq (by simp)
   | cons y s =>
     obtain ⟨h3,h4⟩:=zlc.1 h1; obtain ⟨h5,h6⟩:=zlc.1 h2
     have hxy:x=y:=by
      have m1:y∈x :: r:=hp.mem_iff.2 (by simp); have m2:x∈y :: s:=hp.mem_iff.1 (by simp); rcases zaZ.1 m1 with e | m1
      · exact e.symm
      rcases zaZ.1 m2 with e | m2
      · exact e
      exact ha x (by simp) y (by simp [m1]) (h5 x m2) (h3 y m1)
     subst hxy; rw [zgu ((List.perm_cons x).1 hp) h4 h6 (fun a ha' b hb=>ha a (by simp [ha']) b (by simp [hb]))]
end
theorem zg7 {a b:zaL} (h:lessS a b=true):lessS b a=false:=by
 rcases zux a b with q | q
 · rw [h] at q; cases q
 · exact q
theorem zvu {a b:zaL} (h1:lessS a b=false) (h2:lessS b a=false):a=b:=by
 unfold lessS at h1 h2; obtain ⟨t,s,q⟩:=a; obtain ⟨t',s',q'⟩:=b; simp only at h1 h2
 have:t=t':=by
  by_cases h:t=t'
  · exact h
  · simp [h,Ne.symm h] at h1 h2; omega
 subst this
 have:s=s':=by
  by_cases h:s=s'
  · exact h
  · simp [h,Ne.symm h] at h1 h2; omega
 subst this; simp at h1 h2; have:q=q':=by omega
 rw [this]
theorem zyQ (s:zaL):cw znx [.agg (zbB s)] []=some (zan (stampB s)):=by
 refine zyd s ?_; unfold stampB; simp only [zf1,decide_eq_true_eq]
 repeat' split
 all_goals first
  | (rw [decide_eq_false (by omega)]; rfl)
  | (rw [show decide ((0≤s.Time∧s.Time≤1000000)∧(0≤s.Source∧s.Source≤99)∧(0≤s.Seq∧s.Seq≤9999))=decide (s.Seq≤9999) from decide_eq_decide.2 (by omega)]; rfl)
theorem zr4 (n:Int):cw zb6 [I n] []=some (zan (!decide (0≤n∧n≤1152921504606846976))):=by
 refine zqA n ?_; rw [zaR]; split
 · rw [show decide (0≤n∧n≤1152921504606846976)=false from decide_eq_false (by omega)]; rfl
 · rw [show (!decide (0≤n∧n≤1152921504606846976))=decide (1152921504606846976 < n) by rw [← decide_not]; exact decide_eq_decide.2 (by omega)]
   rfl
theorem c_idx_v (l:List Int) (hl:l.length≤1000000):cw zbT [.sl 1 (List.map zak l),.fn zb6 []] []=some (zbe (match fnd (fun n=>!decide (0≤n∧n≤1152921504606846976)) 0 l with | some (i,_)=>(i:Int) | none=>-1)):=by
 refine zmH l ?_; refine zh0 l (fun n=>!decide (0≤n∧n≤1152921504606846976)) (fun i=>zdz l i) (fun o=>zbe (match o with | some (i,_)=>(i:Int) | none=>-1)) ?_ ?_ ?_
 · exact zeM _ _ (by simp (disch:=omega) only [zat,zaU]; rfl)
 · intro i hi h; refine zeM _ _ ?_; simp (disch:=omega) only [zat,zaH,zap,zbg,zdk,zaE hi,za9,zr4,zam]; rw [h,zaM]; rfl
 · intro i hi y h hk; refine zeM _ _ ?_; simp (disch:=omega) only [zat,zaH,zap,zbg,zdk,zaE hi,za9,zr4,zam]; rw [h,zaB,w6Q]; exact hk
theorem zyN (l:List Int) (hl:l.length≤1000000):cw zbG [.sl 1 (List.map zak l),.fn zb6 []] []=some (zan (l.any fun n=>!decide (0≤n∧n≤1152921504606846976))):=by
 refine zlN l ?_; rw [c_idx_v l hl,zaX,← fnd_any]
 cases fnd (fun n=>!decide (0≤n∧n≤1152921504606846976)) 0 l with
 | none=>rfl
 | some q=>simp; rfl
theorem zzt {α:Type} (p:α→Bool) (l:List α):(!l.any fun n=>!p n)=l.all p:=by
 induction l with
 | nil=>rfl
 | cons x r ih=>simp only [List.any_cons,List.all_cons,Bool.not_or,Bool.not_not,ih]
theorem zzB (e:zab) (hp:e.Pages.length≤1000000):cw ziV [.agg (zaa e)] []=some (zan (decide (1≤e.Stamp.Source∧(0≤e.Part∧e.Part≤23)∧(-1≤e.Value∧e.Value≤40)∧e.Marker=0) && decide (e.Pages.length≤12) && e.Pages.all (fun n=>decide (0≤n∧n≤1152921504606846976)))):=by
 refine zsp e ?_; rw [zyN _ hp,zam,zzt,zat]; simp only [zf1,decide_eq_true_eq,bne_iff_ne,ne_eq]; by_cases hl:12 < e.Pages.length
 · rw [if_pos (show (12:Int) < (e.Pages.length:Int) by omega),show decide (e.Pages.length≤12)=false from decide_eq_false (by omega),zow,zjp]
   repeat' split
   all_goals rfl
 · rw [if_neg (show ¬ (12:Int) < (e.Pages.length:Int) by omega),show decide (e.Pages.length≤12)=true from decide_eq_true (by omega),zov]
   repeat' split
   all_goals first
    | (rw [decide_eq_false (by omega),zjp]; rfl)
    | (rw [decide_eq_true (by omega),zjo]; rfl)
theorem c_Valid (e:zab) (hp:e.Pages.length≤1000000):cw zi2 [.agg (zaa e)] []=some (zan (eventB e)):=by
 refine zwm e ?_; rw [zyQ,zam,zzB e hp,zam,zat]; unfold eventB
 cases hs:stampB e.Stamp with
 | false=>simp only [zda,zaM,zjp]; rfl
 | true =>
 simp only [zb0,zaB,zjo,zf1,decide_eq_true_eq,beq_iff_eq,zcj,if_false]; by_cases h1:0≤e.Script∧e.Script≤319999
 case neg =>
  rw [decide_eq_false h1,zjp,zjp,zjp]; by_cases h2:e.Script < 0
  · rw [if_pos h2]; rfl
  · rw [if_neg h2,if_pos (show 319999 < e.Script by omega)]; rfl
 rw [if_neg (show ¬ e.Script < 0 by omega),if_neg (show ¬ 319999 < e.Script by omega),decide_eq_true h1,zjo]; by_cases k0:e.Kind=0
 · rw [if_pos k0]; have:decide ((e.Kind=0∧1≤e.Stamp.Source∧(0≤e.Part∧e.Part≤23)∧(-1≤e.Value∧e.Value≤40)∧e.Marker=0)∨(e.Kind=1∧e.Stamp.Source=0∧e.Script=0∧e.Part=0∧e.Value=0∧(1≤e.Marker∧e.Marker≤99)∧e.Pages.length=0)∨(e.Kind=2∧e.Stamp.Source=0∧e.Value=0∧e.Marker=0∧(-1≤e.Part∧e.Part≤23)∧e.Pages.length=0))=decide (1≤e.Stamp.Source∧(0≤e.Part∧e.Part≤23)∧(-1≤e.Value∧e.Value≤40)∧e.Marker=0):=decide_eq_decide.2 (by omega); rw [this]; generalize decide (1≤e.Stamp.Source∧(0≤e.Part∧e.Part≤23)∧(-1≤e.Value∧e.Value≤40)∧e.Marker=0)=x; generalize decide (e.Pages.length≤12)=y; generalize (e.Pages.all fun n=>decide (0≤n∧n≤1152921504606846976))=z; cases x <;> cases y <;> cases z <;> rfl
 rw [if_neg k0]; by_cases hl:e.Pages.length=0
 · have hnil:e.Pages=[]:=ztB hl; rw [hnil]; simp only [zqU,List.all_nil,zov,and_true]; rw [show decide ((0:Nat)≤12)=true from rfl,zjo]
   repeat' split
   all_goals first
    | (rw [decide_eq_false (by omega)]; rfl)
    | (rw [decide_eq_true (by omega)]; rfl)
 · have:decide ((e.Kind=0∧1≤e.Stamp.Source∧(0≤e.Part∧e.Part≤23)∧(-1≤e.Value∧e.Value≤40)∧e.Marker=0) ∨
    (e.Kind=1∧e.Stamp.Source=0∧e.Script=0∧e.Part=0∧e.Value=0∧(1≤e.Marker∧e.Marker≤99)∧e.Pages.length=0)∨(e.Kind=2∧e.Stamp.Source=0∧e.Value=0∧e.Marker=0∧(-1≤e.Part∧e.Part≤23)∧e.Pages.length=0))=false:=decide_eq_false (by omega)
   rw [this,zow,show ((e.Pages.length:Int) == 0)=false by simp; intro h; rw [h] at hl; exact hl rfl]
   repeat' split
   all_goals rfl
theorem c_Same (a b:zab) (hl:a.Pages.length≤1000000):cw zkc [.agg (zaa a),.agg (zaa b)] []=some (zan (decide (a=b))):=by
 refine zw6 a b ?_; rw [c_Equal _ _ hl,zam,zwg]; obtain ⟨⟨t,s,q⟩,k,sc,pa,v,m,pg⟩:=a; obtain ⟨⟨t',s',q'⟩,k',sc',pa',v',m',pg'⟩:=b; simp only [zf1,zbZ,beq_iff_eq,and_true,zab.mk.injEq,zaL.mk.injEq]
 repeat' split
 all_goals first
  | (rw [decide_eq_false (by simp_all)]; rfl)
  | (rename_i h1 h2 h3 h4 h5 h6
     rw [show decide ((t=t'∧s=s'∧q=q')∧k=k'∧sc=sc'∧pa=pa'∧v=v'∧m=m'∧pg=pg')=decide (pg=pg') from decide_eq_decide.2 (by simp_all)]
     rfl)
theorem c_clone (e:zab) (hl:e.Pages.length≤1000000):cw zgC [.agg (zaa e)] []=some (zkh e):=by refine zwn e ?_; rw [c_CloneI ci_ok _ hl,zin,cPQ,zcS (by omega)]; rfl
theorem zx7 (a b:zab):cw zep [.agg (zaa a),.agg (zaa b)] []=some (zbe (cmpS a.Stamp b.Stamp)):=by refine zqz a b ?_; rw [zqq,zaX]; rfl
theorem zl2 {l:List zab} {m:zdv} {i:Nat} {e:zab} (hm:∀ p∈m,0≤p.2.first∧p.2.first < (i:Int)):∀ p∈zd3 l m i e,0≤p.2.first∧p.2.first < ((i+1:Nat):Int):=by
 intro p hp; have up:p∈m→0≤p.2.first∧p.2.first < ((i+1:Nat):Int):=fun h=>by have:=hm p h; omega
 unfold zd3 at hp; split at hp
 · split at hp
   · rcases zlk hp with rfl | h
     · simp; omega
     · exact up h
   · rename_i g hg; have:=hm _ (zjQ hg); rcases zlk hp with rfl | h
     · simp at this ⊢; omega
     · exact up h
 · exact up hp
theorem zzL (l:List zab) (hl:l.length≤1000000) (hp:∀ e∈l,e.Pages.length≤1000000):∀ (n i:Nat) (m:zdv),i+n=l.length→(∀ p∈m,0≤p.2.first∧p.2.first < (i:Int))→zc3 l (List.map zbv m) i=some (zdH (zcO l (l.drop i) i m,l)):=by
 intro n
 induction n with
 | zero=>intro i m hi hm; refine zns _ _ _ ?_; rw [zat,zaU (by omega),zhQ (by omega)]; rfl
 | succ n ih =>
   intro i m hi hm; have hlt:i < l.length:=by omega
   have hpe:=hp _ (zbn hlt)
   have IH:∀ m':zdv,zd3 l m i l[i]=m'→zc3 l (List.map zbv m') ((i+1:Nat):Int)=some (zdH (zcO l (l.drop i) i m,l)):=by intro m' hm'; rw [zfG hlt]; unfold zcO; rw [hm']; refine ih (i+1) m' (by omega) ?_; rw [← hm']; exact zl2 hm
   refine zns _ _ _ ?_; rw [zaH (by simp; omega),cPQ,zap (by simp; omega),zcd,zbg,zdd,zaE hlt,za9,c_Valid _ hpe,zam,w6Q,show ((i:Int)+1)=((i+1:Nat):Int) by omega]; unfold zd3 at IH
   cases hv:eventB l[i] with
   | false=>rw [zda,zaM]; exact IH m (by rw [hv]; rfl)
   | true =>
     rw [zb0,zaB,zne l[i] (y:=zgP (l[i].Stamp.Source,l[i].Stamp.Seq)) rfl,zkQ]; rw [show (AV.agg (zd1.enc (l[i].Stamp.Source,l[i].Stamp.Seq)))=.agg (zcr (l[i].Stamp.Source,l[i].Stamp.Seq)) from rfl,zi9]; rw [hv] at IH; simp only [if_true] at IH
     cases hf:mfind (l[i].Stamp.Source,l[i].Stamp.Seq) m with
     | none=>rw [hf] at IH; simp only [zqY,zda,zaM,Option.getD_none]; rw [zcN]; exact IH _ rfl
     | some g =>
       rw [hf] at IH; have hg:=hm _ (zjQ hf); simp only at hg; have hgl:g.first.toNat < l.length:=by omega
       simp only [zmt,zb0,zaB,ziB]; rw [zap hg.1,zap (by simp; omega),zcd,zdd,zaE hgl,za9,c_Same _ _ (hp _ (zbn hgl)),zam]; by_cases he:l[g.first.toNat]=l[i]
       · rw [decide_eq_true he,zb0,zaB,zcN]; exact IH _ (by simp only [zaE hgl,he,if_true])
       · rw [decide_eq_false he,zda,zaM,zcN]; exact IH _ (by simp only [zaE hgl,zas,he,if_false])
theorem c_groups (l:List zab) (hl:l.length≤1000000) (hp:∀ e∈l,e.Pages.length≤1000000):cw zcI [.row 1000 9 0 (List.map zaa l).length] [(1000,⟨9,zac,List.map zaa l,false⟩)]=some (zdH (zbL l,l)):=by refine zvp l ?_; have:=zzL l hl hp l.length 0 [] (by omega) (by simp); rw [zoe] at this; exact this
theorem zyh (l:List zab) (hl:l.length≤1000000) (hp:∀ e∈l,e.Pages.length≤1000000):∀ (n i:Nat) (m:zdv),i+n=l.length→(∀ p∈m,0≤p.2.first∧p.2.first < (i:Int))→zcF l (List.map zbv m) i=some (zc5 (zcO l (l.drop i) i m)):=by
 intro n
 induction n with
 | zero=>intro i m hi hm; refine zmg _ _ _ ?_; rw [zat,zaU (by omega),zhQ (by omega)]; rfl
 | succ n ih =>
   intro i m hi hm; have hlt:i < l.length:=by omega
   have hpe:=hp _ (zbn hlt)
   have IH:∀ m':zdv,zd3 l m i l[i]=m'→zcF l (List.map zbv m') ((i+1:Nat):Int)=some (zc5 (zcO l (l.drop i) i m)):=by intro m' hm'; rw [zfG hlt]; unfold zcO; rw [hm']; refine ih (i+1) m' (by omega) ?_; rw [← hm']; exact zl2 hm
   refine zmg _ _ _ ?_; rw [zaH (by simp; omega),cPQ,zbg,zdd,zaE hlt,za9,c_Valid _ hpe,zam,w6Q,show ((i:Int)+1)=((i+1:Nat):Int) by omega]; unfold zd3 at IH
   cases hv:eventB l[i] with
   | false=>rw [zda,zaM]; exact IH m (by rw [hv]; rfl)
   | true =>
     rw [zb0,zaB,zne l[i] (y:=zgP (l[i].Stamp.Source,l[i].Stamp.Seq)) rfl,zkQ]; rw [show (AV.agg (zd1.enc (l[i].Stamp.Source,l[i].Stamp.Seq)))=.agg (zcr (l[i].Stamp.Source,l[i].Stamp.Seq)) from rfl,zi9]; rw [hv] at IH; simp only [if_true] at IH
     cases hf:mfind (l[i].Stamp.Source,l[i].Stamp.Seq) m with
     | none=>rw [hf] at IH; simp only [zqY,zda,zaM,Option.getD_none]; rw [zcN]; exact IH _ rfl
     | some g =>
       rw [hf] at IH; have hg:=hm _ (zjQ hf); simp only at hg; have hgl:g.first.toNat < l.length:=by omega
       simp only [zmt,zb0,zaB,ziB]; rw [zap hg.1,zdd,zaE hgl,za9,c_Same _ _ (hp _ (zbn hgl)),zam]; by_cases he:l[g.first.toNat]=l[i]
       · rw [decide_eq_true he,zb0,zaB,zcN]; exact IH _ (by simp only [zaE hgl,he,if_true])
       · rw [decide_eq_false he,zda,zaM,zcN]; exact IH _ (by simp only [zaE hgl,zas,he,if_false])
theorem c_groups_d (l:List zab) (hl:l.length≤1000000) (hp:∀ e∈l,e.Pages.length≤1000000):cw zcI [.sl 9 (List.map zaa l)] []=some (zc5 (zbL l)):=by refine zsY l ?_; have:=zyh l hl hp l.length 0 [] (by omega) (by simp); rw [zoe] at this; exact this
theorem zoQ {l:List zab}:∀ {r:List zab} {i:Nat} {m:zdv},(∀ p∈m,0≤p.2.first∧p.2.first < (i:Int))→∀ p∈zcO l r i m,0≤p.2.first∧p.2.first < ((i+r.length:Nat):Int)
 | [],i,m,h,p,hp=>by simpa using h p hp
 | e :: r,i,m,h,p,hp=>by have:=zoQ (zl2 h) p hp; simp only [zf0] at this ⊢; omega
theorem zy1 (l:List zab):∀ p∈zbL l,0≤p.2.first∧p.2.first < (l.length:Int):=fun p hp=>by have:=zoQ (l:=l) (r:=l) (i:=0) (m:=[]) (by simp) p hp; simpa using this
theorem zrE {κ ν:Type} [DecidableEq κ] {k:κ} {v:ν}:∀ {l:List (κ×ν)},(mput k v l).length≤l.length+1
 | []=>by simp [mput]
 | p :: r=>by
   unfold mput; split
   · simp
   · have:=zrE (k:=k) (v:=v) (l:=r); simp only [zf0]; omega
theorem zyg {l:List zab} {m:zdv} {i:Nat} {e:zab}:(zd3 l m i e).length≤m.length+1:=by
 unfold zd3; split
 · split
   · exact zrE
   · exact zrE
 · omega
theorem zqD {l:List zab}:∀ {r:List zab} {i:Nat} {m:zdv},(zcO l r i m).length≤m.length+r.length
 | [],i,m=>by simp [zcO]
 | e :: r,i,m=>by have h1:=zqD (l:=l) (r:=r) (i:=i+1) (m:=zd3 l m i e); have h2:=zyg (l:=l) (m:=m) (i:=i) (e:=e); unfold zcO; simp only [zf0]; omega
theorem zwx (l:List zab):(zbL l).length≤l.length:=by have:=zqD (l:=l) (r:=l) (i:=0) (m:=[]); rw [zqU,zcd] at this; exact this
theorem zth {κ ν:Type} [DecidableEq κ] {k:κ} {v:ν} {l:List (κ×ν)} (h:(l.map (·.1)).Nodup):((mput k v l).map (·.1)).Nodup∧∀ x,x∈(mput k v l).map (·.1)→x=k∨x∈l.map (·.1):=by
 induction l with
 | nil=>simp [mput]
 | cons p r ih =>
   obtain ⟨h1,h2⟩:=zfz.1 h; unfold mput; split
   · rename_i hk; refine ⟨by simpa [← hk] using h,fun x hx=>?_⟩; simp only [zck,zaZ] at hx ⊢; rcases hx with h | h
     · exact .inl h
     · exact .inr (.inr h)
   · rename_i hk; obtain ⟨i1,i2⟩:=ih h2; refine ⟨zfz.2 ⟨fun hm=>?_,i1⟩,fun x hx=>?_⟩
     · rcases i2 _ hm with h | h
       · exact hk h
       · exact h1 h
     · simp only [zck,zaZ] at hx ⊢; rcases hx with h | h
       · exact .inr (.inl h)
       · rcases i2 x h with h | h
         · exact .inl h
         · exact .inr (.inr h)
def Keyed (l:List zab) (m:zdv):Prop:=(m.map (·.1)).Nodup∧∀ p∈m,∃ e,l[p.2.first.toNat]?=some e∧(e.Stamp.Source,e.Stamp.Seq)=p.1∧eventB e=true
theorem zww {l:List zab} {m:zdv} {i:Nat} {e:zab} (h:Keyed l m) (he:l[i]?=some e):Keyed l (zd3 l m i e):=by
 unfold zd3; split
 · rename_i hv; split
   · refine ⟨(zth h.1).1,fun p hp=>?_⟩; rcases zlk hp with rfl | hp
     · exact ⟨e,by simpa using he,rfl,hv⟩
     · exact h.2 p hp
   · rename_i g hg; refine ⟨(zth h.1).1,fun p hp=>?_⟩; rcases zlk hp with rfl | hp
     · obtain ⟨e',h1,h2,h3⟩:=h.2 _ (zjQ hg); exact ⟨e',h1,h2,h3⟩
     · exact h.2 p hp
 · exact h
theorem zoR {l:List zab}:∀ {r:List zab} {i:Nat} {m:zdv},Keyed l m→l.drop i=r→Keyed l (zcO l r i m)
 | [],i,m,h,_=>h
 | e :: r,i,m,h,hd=>by
   unfold zcO
   have he:l[i]?=some e:=by have:=congrArg (·[0]?) hd; simpa using this
   refine zoR (zww h he) ?_; have:=congrArg (List.drop 1) hd; simpa [List.drop_drop] using this
theorem zoS (l:List zab):Keyed l (zbL l):=zoR ⟨by simp,by simp⟩ (by simp)
theorem zr6 {l:List zab} {m:zdv} (h:Keyed l m):(m.filterMap (pickG l)).Pairwise (fun a b=>(a.Stamp.Source,a.Stamp.Seq)≠(b.Stamp.Source,b.Stamp.Seq))∧∀ e∈m.filterMap (pickG l),eventB e=true∧e∈l:=by
 constructor
 · rw [List.pairwise_filterMap]; have hn:=h.1; rw [List.Nodup,zu0] at hn; refine zu1 ?_ hn; intro a b ha hb hab x hx y hy; obtain ⟨e,h1,h2,_⟩:=h.2 a ha; obtain ⟨f,h3,h4,_⟩:=h.2 b hb
   have e1:x=e:=by
    unfold pickG at hx; split at hx
    · cases hx
    · rw [h1] at hx; injection hx with hx; exact hx.symm
   have e2:y=f:=by
    unfold pickG at hy; split at hy
    · cases hy
    · rw [h3] at hy; injection hy with hy; exact hy.symm
   subst e1 e2; rw [h2,h4]; exact hab
 · intro x hx; obtain ⟨p,hp,hpx⟩:=ztC.1 hx; obtain ⟨e,h1,_,h3⟩:=h.2 p hp; unfold pickG at hpx; split at hpx
   · cases hpx
   · rw [h1] at hpx; injection hpx with hpx; subst hpx; exact ⟨h3,zbN h1⟩
theorem keep_mem {l:List zab} {e:zab} (h:e∈keepS l):eventB e=true∧e∈l:=(zr6 (zoS l)).2 e h
theorem keep_ids (l:List zab):(keepS l).Pairwise (fun a b=>(a.Stamp.Source,a.Stamp.Seq)≠(b.Stamp.Source,b.Stamp.Seq)):=(zr6 (zoS l)).1
theorem zy9 {α:Type} {f:α→Int×Int} {l:List α} (h:l.Pairwise (fun a b=>f a≠f b)) {a b:α} (ha:a∈l) (hb:b∈l) (e:f a=f b):a=b:=by
 induction l with
 | nil=>cases ha
 | cons x r ih =>
   obtain ⟨h1,h2⟩:=zlc.1 h; rcases zaZ.1 ha with ea | ha'
   · rcases zaZ.1 hb with eb | hb'
     · rw [ea,eb]
     · rw [ea] at e; exact absurd e (h1 b hb')
   · rcases zaZ.1 hb with eb | hb'
     · rw [eb] at e; exact absurd e.symm (h1 a ha')
     · exact ih h2 ha' hb'
theorem keep_inj {l:List zab} {a b:zab} (ha:a∈keepS l) (hb:b∈keepS l) (e:a.Stamp=b.Stamp):a=b:=zy9 (f:=fun x=>(x.Stamp.Source,x.Stamp.Seq)) (keep_ids l) ha hb (by simp only [e])
theorem zsQ (l:List zab):(canonS l).Pairwise (fun a b=>lessS b.Stamp a.Stamp=false):=
 zjJ (lt:=fun a b:zab=>lessS a.Stamp b.Stamp) (fun _ _ _ h1 h2=>zpW h1 h2) (fun _ _ h=>zg7 h) _
theorem zeg (l:List zab):List.Perm (canonS l) (keepS l):=zdx _
theorem canon_of {l r:List zab} (hp:List.Perm r (keepS l)) (hs:r.Pairwise (fun a b=>lessS b.Stamp a.Stamp=false)):r=canonS l:=
 zgu (lt:=fun a b:zab=>lessS a.Stamp b.Stamp) (hp.trans (zeg l).symm) hs (zsQ l) (fun _ ha _ hb h1 h2=>keep_inj (hp.mem_iff.1 ha) (hp.mem_iff.1 hb) (zvu h1 h2))
theorem swoE:Go.Sort.SWO (fun a b:zab=>lessS a.Stamp b.Stamp) where
 irrefl:=fun x=>by rcases zux x.Stamp x.Stamp with h | h <;> exact h
 trans:=fun x y z h1 h2=>by
  cases h:lessS x.Stamp z.Stamp with
  | true=>rfl
  | false=>have h3:=zpW (zg7 h2) h; rw [h1] at h3; cases h3
 ntrans:=fun x y z h1 h2=>zpW h2 h1
theorem cmpE:SX.Cmp (S:=sgE) (fun a b:zab=>lessS a.Stamp b.Stamp) (fun _=>True) where
 ans:=fun x y _ _=>⟨_,zx7 x y,cmpS_neg _ _⟩
theorem cnLegs (b:Bool) {l:List zab} (h:FewEv l):CnLegs b l where
 len:=h.1
 glen:=by have:=zwx l; have:=h.1; omega
 few:=by have:=h.2.1; omega
 cGroups:=by
  cases b with
  | true=>exact c_groups l (by have:=h.1; omega) h.2.2
  | false=>exact c_groups_d l (by have:=h.1; omega) h.2.2
 first:=zy1 l
 cSort:=fun ev hp=>by
  have hl:ev.length < 256:=by have:=hp.length_eq; have:=h.2.1; omega
  obtain ⟨l',h1,h2,h3⟩:=SX.c_SortFunc (S:=sgE) cmpE swoE ev (fun _ _=>trivial) hl; rw [canon_of (h2.trans hp) h3] at h1; exact h1
 perm:=zeg l
 cClone:=fun e he=>c_clone e (h.2.2 e (keep_mem ((zeg l).mem_iff.1 he)).2)
set_option maxRecDepth 100000
theorem f0 (b:Bool) (s:zaA) (l:List zab):tReg zaQ zT 0 ⟨[(0,AV.agg [AV.sl 5 (List.map za5 s.Markers),AV.sl 7 (List.map zaT s.Scripts),AV.sl 3 (List.map zaK s.Papers),AV.sl 2 (List.map zbS s.Schemes),AV.sl 2 (List.map zb8 s.Seeds),I s.Monitor.Part,I s.Monitor.Total,I s.Monitor.Window,I s.Monitor.Fails]),(1,frA b 1001 l)],frM b 1001 l⟩=(some ⟨[(1,frA b 1001 l),(2,AV.loc 2 9 0 0),(4,AV.loc 4 2 0 0)],[(2,⟨9,zay,[zau s],true⟩),(4,⟨2,zav,[[AV.v (.slice none 0 0),AV.v (.slice none 0 0)]],true⟩)]++frM b 1001 l⟩):=by cases b <;> kernel_rfl
theorem f1 (b:Bool) (s:zaA) (l:List zab):tReg zaQ zT 1 ⟨[(1,frA b 1001 l),(2,AV.loc 2 9 0 0),(4,AV.loc 4 2 0 0)],[(2,⟨9,zay,[zau s],true⟩),(4,⟨2,zav,[[AV.v (.slice none 0 0),AV.v (.slice none 0 0)]],true⟩)]++frM b 1001 l⟩=(callD zaJ (cw zgB [AV.agg (zau s)] []) fun (r0:Int)=>some ⟨[(1,frA b 1001 l),(2,AV.loc 2 9 0 0),(4,AV.loc 4 2 0 0),(17,B (r0 != 0))],[(2,⟨9,zay,[zau s],true⟩),(4,⟨2,zav,[[AV.v (.slice none 0 0),AV.v (.slice none 0 0)]],true⟩)]++frM b 1001 l⟩):=by cases b <;> kernel_rfl
theorem f4 (b:Bool) (s:zaA) (l:List zab) (ev:List zab) (c:Int):tReg zaQ zT 4 ⟨[(2,AV.loc 2 9 0 0),(4,AV.loc 4 2 0 0),(6,AV.sl 9 (List.map zaa ev)),(7,I c)],[(2,⟨9,zay,[zau s],true⟩),(4,⟨2,zav,[[AV.v (.slice none 0 0),AV.v (.slice none 0 0)]],true⟩)]++frM b 1001 l⟩=(some ⟨[(2,AV.loc 2 9 0 0),(4,AV.loc 4 2 0 0),(6,AV.sl 9 (List.map zaa ev)),(7,I c),(25,B (c != 0))],[(2,⟨9,zay,[zau s],true⟩),(4,⟨2,zav,[[AV.v (.slice none 0 0),AV.v (.slice none 0 0)]],true⟩)]++frM b 1001 l⟩):=by cases b <;> kernel_rfl
theorem f6 (b:Bool) (s:zaA) (l:List zab) (ev:List zab):tReg zaQ zT 6 ⟨[(2,AV.loc 2 9 0 0),(4,AV.loc 4 2 0 0),(6,AV.sl 9 (List.map zaa ev))],[(2,⟨9,zay,[zau s],true⟩),(4,⟨2,zav,[[AV.v (.slice none 0 0),AV.v (.slice none 0 0)]],true⟩)]++frM b 1001 l⟩=(callD zhB (cw zcC [AV.agg (zau s),AV.sl 9 (List.map zaa ev)] []) fun (r0:List (Option zah)×List (zao×zaL))=>some ⟨[(4,AV.loc 4 2 0 0),(8,AV.fa 1 (List.map nDp r0.fst)),(9,AV.mp (List.map zaj r0.snd))],[(4,⟨2,zav,[[AV.v (.slice none 0 0),AV.v (.slice none 0 0)]],true⟩)]++frM b 1001 l⟩):=by cases b <;> kernel_rfl
theorem f7 (b:Bool) (l:List zab) (ds:List (Option zah)) (R:List (zao×zaL)):tReg zaQ zT 7 ⟨[(4,AV.loc 4 2 0 0),(8,AV.fa 1 (List.map nDp ds)),(9,AV.mp (List.map zaj R))],[(4,⟨2,zav,[[AV.v (.slice none 0 0),AV.v (.slice none 0 0)]],true⟩)]++frM b 1001 l⟩=(some ⟨[(4,AV.loc 4 2 0 0),(8,AV.fa 1 (List.map nDp ds)),(9,AV.mp (List.map zaj R)),(10,AV.loc 10 2 0 0)],[(4,⟨2,zav,[[AV.v (.slice none 0 0),AV.v (.slice none 0 0)]],true⟩),(10,⟨2,zav,[[AV.row 301 8 0 0,AV.row 302 12 0 0]],true⟩),(301,⟨8,zaN,[],false⟩),(302,⟨12,zar,[],false⟩)]++frM b 1001 l⟩):=by cases b <;> kernel_rfl
theorem f8 (b:Bool) (l:List zab) (ds:List (Option zah)) (R:List (zao×zaL)) (xs:List (List AV)) (ys:List (List AV)):tReg zaQ zT 8 ⟨[(4,AV.loc 4 2 0 0),(8,AV.fa 1 (List.map nDp ds)),(9,AV.mp (List.map zaj R)),(10,AV.loc 10 2 0 0)],[(4,⟨2,zav,[[AV.v (.slice none 0 0),AV.v (.slice none 0 0)]],true⟩),(10,⟨2,zav,[[AV.row 301 8 0 (List.length xs),AV.row 302 12 0 (List.length ys)]],true⟩),(301,⟨8,zaN,xs,false⟩),(302,⟨12,zar,ys,false⟩)]++frM b 1001 l⟩=(some ⟨[(4,AV.loc 4 2 0 0),(9,AV.mp (List.map zaj R)),(10,AV.loc 10 2 0 0),(34,AV.fa 1 (List.map nDp ds)),(35,I 0)],[(4,⟨2,zav,[[AV.v (.slice none 0 0),AV.v (.slice none 0 0)]],true⟩),(10,⟨2,zav,[[AV.row 301 8 0 (List.length xs),AV.row 302 12 0 (List.length ys)]],true⟩),(301,⟨8,zaN,xs,false⟩),(302,⟨12,zar,ys,false⟩)]++frM b 1001 l⟩):=by cases b <;> kernel_rfl
theorem f9 (b:Bool) (l:List zab) (ds:List (Option zah)) (R:List (zao×zaL)) (xs:List (List AV)) (ys:List (List AV)) (i:Int):tReg zaQ zT 9 ⟨[(4,AV.loc 4 2 0 0),(9,AV.mp (List.map zaj R)),(10,AV.loc 10 2 0 0),(34,AV.fa 1 (List.map nDp ds)),(35,I i)],[(4,⟨2,zav,[[AV.v (.slice none 0 0),AV.v (.slice none 0 0)]],true⟩),(10,⟨2,zav,[[AV.row 301 8 0 (List.length xs),AV.row 302 12 0 (List.length ys)]],true⟩),(301,⟨8,zaN,xs,false⟩),(302,⟨12,zar,ys,false⟩)]++frM b 1001 l⟩=(some ⟨[(4,AV.loc 4 2 0 0),(9,AV.mp (List.map zaj R)),(10,AV.loc 10 2 0 0),(34,AV.fa 1 (List.map nDp ds)),(35,I i),(36,B (decide (i < 100)))],[(4,⟨2,zav,[[AV.v (.slice none 0 0),AV.v (.slice none 0 0)]],true⟩),(10,⟨2,zav,[[AV.row 301 8 0 (List.length xs),AV.row 302 12 0 (List.length ys)]],true⟩),(301,⟨8,zaN,xs,false⟩),(302,⟨12,zar,ys,false⟩)]++frM b 1001 l⟩):=by cases b <;> kernel_rfl
theorem f10 (b:Bool) (l:List zab) (ds:List (Option zah)) (R:List (zao×zaL)) (xs:List (List AV)) (ys:List (List AV)) (i:Int):tReg zaQ zT 10 ⟨[(4,AV.loc 4 2 0 0),(9,AV.mp (List.map zaj R)),(10,AV.loc 10 2 0 0),(34,AV.fa 1 (List.map nDp ds)),(35,I i)],[(4,⟨2,zav,[[AV.v (.slice none 0 0),AV.v (.slice none 0 0)]],true⟩),(10,⟨2,zav,[[AV.row 301 8 0 (List.length xs),AV.row 302 12 0 (List.length ys)]],true⟩),(301,⟨8,zaN,xs,false⟩),(302,⟨12,zar,ys,false⟩)]++frM b 1001 l⟩=(chk ((0:Int)≤i)<|
 chk ((i:Int) < (↑100:Int))<|
 elemP zeR (List.map nDp ds) i.toNat (some ⟨[(4,AV.loc 4 2 0 0),(9,AV.mp (List.map zaj R)),(10,AV.loc 10 2 0 0),(11,I i),(12,AV.v (.pointer none)),(34,AV.fa 1 (List.map nDp ds)),(35,I i)],[(4,⟨2,zav,[[AV.v (.slice none 0 0),AV.v (.slice none 0 0)]],true⟩),(10,⟨2,zav,[[AV.row 301 8 0 (List.length xs),AV.row 302 12 0 (List.length ys)]],true⟩),(301,⟨8,zaN,xs,false⟩),(302,⟨12,zar,ys,false⟩)]++frM b 1001 l⟩)
 (fun (p0:Addr)=>some ⟨[(4,AV.loc 4 2 0 0),(9,AV.mp (List.map zaj R)),(10,AV.loc 10 2 0 0),(11,I i),(12,AV.v (.pointer (some p0))),(34,AV.fa 1 (List.map nDp ds)),(35,I i)],[(4,⟨2,zav,[[AV.v (.slice none 0 0),AV.v (.slice none 0 0)]],true⟩),(10,⟨2,zav,[[AV.row 301 8 0 (List.length xs),AV.row 302 12 0 (List.length ys)]],true⟩),(301,⟨8,zaN,xs,false⟩),(302,⟨12,zar,ys,false⟩)]++frM b 1001 l⟩)
 fun (c1:zah) =>
 some ⟨[(4,AV.loc 4 2 0 0),(9,AV.mp (List.map zaj R)),(10,AV.loc 10 2 0 0),(11,I i),(12,AV.fp [I c1.level,AV.sl 10 (List.map zai c1.marks),I c1.period,I c1.started.Time,I c1.started.Source,I c1.started.Seq,AV.mp (List.map zaq c1.noted),AV.sl 1 (List.map nBool c1.watch.Last),B c1.watch.Suspended,I c1.good.Time,I c1.good.Source,I c1.good.Seq,B c1.some,AV.sl 12 (List.map zag c1.suspensions)]),(34,AV.fa 1 (List.map nDp ds)),(35,I i)],[(4,⟨2,zav,[[AV.v (.slice none 0 0),AV.v (.slice none 0 0)]],true⟩),(10,⟨2,zav,[[AV.row 301 8 0 (List.length xs),AV.row 302 12 0 (List.length ys)]],true⟩),(301,⟨8,zaN,xs,false⟩),(302,⟨12,zar,ys,false⟩)]++frM b 1001 l⟩):=by cases b <;> kernel_rfl
theorem f11n (b:Bool) (l:List zab) (ds:List (Option zah)) (R:List (zao×zaL)) (xs:List (List AV)) (ys:List (List AV)) (i:Int):tReg zaQ zT 11 ⟨[(4,AV.loc 4 2 0 0),(9,AV.mp (List.map zaj R)),(10,AV.loc 10 2 0 0),(11,I i),(12,AV.v (.pointer none)),(34,AV.fa 1 (List.map nDp ds)),(35,I i)],[(4,⟨2,zav,[[AV.v (.slice none 0 0),AV.v (.slice none 0 0)]],true⟩),(10,⟨2,zav,[[AV.row 301 8 0 (List.length xs),AV.row 302 12 0 (List.length ys)]],true⟩),(301,⟨8,zaN,xs,false⟩),(302,⟨12,zar,ys,false⟩)]++frM b 1001 l⟩=(some ⟨[(4,AV.loc 4 2 0 0),(9,AV.mp (List.map zaj R)),(10,AV.loc 10 2 0 0),(11,I i),(12,AV.v (.pointer none)),(34,AV.fa 1 (List.map nDp ds)),(35,I i),(42,B true)],[(4,⟨2,zav,[[AV.v (.slice none 0 0),AV.v (.slice none 0 0)]],true⟩),(10,⟨2,zav,[[AV.row 301 8 0 (List.length xs),AV.row 302 12 0 (List.length ys)]],true⟩),(301,⟨8,zaN,xs,false⟩),(302,⟨12,zar,ys,false⟩)]++frM b 1001 l⟩):=by cases b <;> kernel_rfl
theorem f11d (b:Bool) (l:List zab) (ds:List (Option zah)) (R:List (zao×zaL)) (xs:List (List AV)) (ys:List (List AV)) (i:Int) (d:zah):tReg zaQ zT 11 ⟨[(4,AV.loc 4 2 0 0),(9,AV.mp (List.map zaj R)),(10,AV.loc 10 2 0 0),(11,I i),(12,AV.fp [I d.level,AV.sl 10 (List.map zai d.marks),I d.period,I d.started.Time,I d.started.Source,I d.started.Seq,AV.mp (List.map zaq d.noted),AV.sl 1 (List.map nBool d.watch.Last),B d.watch.Suspended,I d.good.Time,I d.good.Source,I d.good.Seq,B d.some,AV.sl 12 (List.map zag d.suspensions)]),(34,AV.fa 1 (List.map nDp ds)),(35,I i)],[(4,⟨2,zav,[[AV.v (.slice none 0 0),AV.v (.slice none 0 0)]],true⟩),(10,⟨2,zav,[[AV.row 301 8 0 (List.length xs),AV.row 302 12 0 (List.length ys)]],true⟩),(301,⟨8,zaN,xs,false⟩),(302,⟨12,zar,ys,false⟩)]++frM b 1001 l⟩=(some ⟨[(4,AV.loc 4 2 0 0),(9,AV.mp (List.map zaj R)),(10,AV.loc 10 2 0 0),(11,I i),(12,AV.fp [I d.level,AV.sl 10 (List.map zai d.marks),I d.period,I d.started.Time,I d.started.Source,I d.started.Seq,AV.mp (List.map zaq d.noted),AV.sl 1 (List.map nBool d.watch.Last),B d.watch.Suspended,I d.good.Time,I d.good.Source,I d.good.Seq,B d.some,AV.sl 12 (List.map zag d.suspensions)]),(34,AV.fa 1 (List.map nDp ds)),(35,I i),(42,B false)],[(4,⟨2,zav,[[AV.v (.slice none 0 0),AV.v (.slice none 0 0)]],true⟩),(10,⟨2,zav,[[AV.row 301 8 0 (List.length xs),AV.row 302 12 0 (List.length ys)]],true⟩),(301,⟨8,zaN,xs,false⟩),(302,⟨12,zar,ys,false⟩)]++frM b 1001 l⟩):=by cases b <;> kernel_rfl
theorem f12 (b:Bool) (l:List zab) (ds:List (Option zah)) (R:List (zao×zaL)) (xs:List (List AV)) (ys:List (List AV)) (i:Int) (d:zah):tReg zaQ zT 12 ⟨[(4,AV.loc 4 2 0 0),(9,AV.mp (List.map zaj R)),(10,AV.loc 10 2 0 0),(11,I i),(12,AV.fp [I d.level,AV.sl 10 (List.map zai d.marks),I d.period,I d.started.Time,I d.started.Source,I d.started.Seq,AV.mp (List.map zaq d.noted),AV.sl 1 (List.map nBool d.watch.Last),B d.watch.Suspended,I d.good.Time,I d.good.Source,I d.good.Seq,B d.some,AV.sl 12 (List.map zag d.suspensions)]),(34,AV.fa 1 (List.map nDp ds)),(35,I i)],[(4,⟨2,zav,[[AV.v (.slice none 0 0),AV.v (.slice none 0 0)]],true⟩),(10,⟨2,zav,[[AV.row 301 8 0 (List.length xs),AV.row 302 12 0 (List.length ys)]],true⟩),(301,⟨8,zaN,xs,false⟩),(302,⟨12,zar,ys,false⟩)]++frM b 1001 l⟩=(chk (ys.length=ys.length)<|
 chk ((ys.length+(List.map zag d.suspensions).length)*(88+1)≤1099511627776)<|
 some ⟨[(4,AV.loc 4 2 0 0),(9,AV.mp (List.map zaj R)),(10,AV.loc 10 2 0 0),(11,I i),(12,AV.fp [I d.level,AV.sl 10 (List.map zai d.marks),I d.period,I d.started.Time,I d.started.Source,I d.started.Seq,AV.mp (List.map zaq d.noted),AV.sl 1 (List.map nBool d.watch.Last),B d.watch.Suspended,I d.good.Time,I d.good.Source,I d.good.Seq,B d.some,AV.sl 12 (List.map zag d.suspensions)]),(34,AV.fa 1 (List.map nDp ds)),(35,I i)],[(4,⟨2,zav,[[AV.v (.slice none 0 0),AV.v (.slice none 0 0)]],true⟩),(10,⟨2,zav,[[AV.row 301 8 0 (List.length xs),AV.row 302 12 0 (List.length (ys++(List.map zag d.suspensions)))]],true⟩),(301,⟨8,zaN,xs,false⟩),(302,⟨12,zar,ys++(List.map zag d.suspensions),false⟩)]++frM b 1001 l⟩):=by cases b <;> kernel_rfl
theorem f13 (b:Bool) (l:List zab) (ds:List (Option zah)) (R:List (zao×zaL)) (xs:List (List AV)) (ys:List (List AV)) (i:Int) (d:zah):tSeg zaQ zT 13 0 3 ⟨[(4,AV.loc 4 2 0 0),(9,AV.mp (List.map zaj R)),(10,AV.loc 10 2 0 0),(11,I i),(12,AV.fp [I d.level,AV.sl 10 (List.map zai d.marks),I d.period,I d.started.Time,I d.started.Source,I d.started.Seq,AV.mp (List.map zaq d.noted),AV.sl 1 (List.map nBool d.watch.Last),B d.watch.Suspended,I d.good.Time,I d.good.Source,I d.good.Seq,B d.some,AV.sl 12 (List.map zag d.suspensions)]),(34,AV.fa 1 (List.map nDp ds)),(35,I i)],[(4,⟨2,zav,[[AV.v (.slice none 0 0),AV.v (.slice none 0 0)]],true⟩),(10,⟨2,zav,[[AV.row 301 8 0 (List.length xs),AV.row 302 12 0 (List.length ys)]],true⟩),(301,⟨8,zaN,xs,false⟩),(302,⟨12,zar,ys,false⟩)]++frM b 1001 l⟩=(callD zdU (cw zc8 [AV.fp [I d.level,AV.sl 10 (List.map zai d.marks),I d.period,I d.started.Time,I d.started.Source,I d.started.Seq,AV.mp (List.map zaq d.noted),AV.sl 1 (List.map nBool d.watch.Last),B d.watch.Suspended,I d.good.Time,I d.good.Source,I d.good.Seq,B d.some,AV.sl 12 (List.map zag d.suspensions)],AV.mp (List.map zaj R)] []) fun (r0:(List (zao×zab)))=>some ⟨[(53,AV.map 53),(52,AV.mp (List.map zaj R)),(51,AV.fp [I d.level,AV.sl 10 (List.map zai d.marks),I d.period,I d.started.Time,I d.started.Source,I d.started.Seq,AV.mp (List.map zaq d.noted),AV.sl 1 (List.map nBool d.watch.Last),B d.watch.Suspended,I d.good.Time,I d.good.Source,I d.good.Seq,B d.some,AV.sl 12 (List.map zag d.suspensions)]),(4,AV.loc 4 2 0 0),(9,AV.mp (List.map zaj R)),(10,AV.loc 10 2 0 0),(11,I i),(12,AV.fp [I d.level,AV.sl 10 (List.map zai d.marks),I d.period,I d.started.Time,I d.started.Source,I d.started.Seq,AV.mp (List.map zaq d.noted),AV.sl 1 (List.map nBool d.watch.Last),B d.watch.Suspended,I d.good.Time,I d.good.Source,I d.good.Seq,B d.some,AV.sl 12 (List.map zag d.suspensions)]),(34,AV.fa 1 (List.map nDp ds)),(35,I i)],[(53,⟨0,zbF,List.map zby r0,false⟩),(4,⟨2,zav,[[AV.v (.slice none 0 0),AV.v (.slice none 0 0)]],true⟩),(10,⟨2,zav,[[AV.row 301 8 0 (List.length xs),AV.row 302 12 0 (List.length ys)]],true⟩),(301,⟨8,zaN,xs,false⟩),(302,⟨12,zar,ys,false⟩)]++frM b 1001 l⟩):=by cases b <;> kernel_rfl
theorem f15 (b:Bool) (l:List zab) (ds:List (Option zah)) (R:List (zao×zaL)) (xs:List (List AV)) (ys:List (List AV)) (i:Int) (d:zah) (p:Addr) (k:zao) (e:zab):tSeg zaQ zT 15 1 3 ⟨[(4,AV.loc 4 2 0 0),(9,AV.mp (List.map zaj R)),(10,AV.loc 10 2 0 0),(11,I i),(12,AV.fp [I d.level,AV.sl 10 (List.map zai d.marks),I d.period,I d.started.Time,I d.started.Source,I d.started.Seq,AV.mp (List.map zaq d.noted),AV.sl 1 (List.map nBool d.watch.Last),B d.watch.Suspended,I d.good.Time,I d.good.Source,I d.good.Seq,B d.some,AV.sl 12 (List.map zag d.suspensions)]),(34,AV.fa 1 (List.map nDp ds)),(35,I i),(54,AV.v (.pointer (some p))),(57,AV.tup [AV.agg [I k.script,I k.part],AV.agg [I e.Stamp.Time,I e.Stamp.Source,I e.Stamp.Seq,I e.Kind,I e.Script,I e.Part,I e.Value,I e.Marker,AV.sl 1 (List.map zak e.Pages)]])],[(4,⟨2,zav,[[AV.v (.slice none 0 0),AV.v (.slice none 0 0)]],true⟩),(10,⟨2,zav,[[AV.row 301 8 0 (List.length xs),AV.row 302 12 0 (List.length ys)]],true⟩),(301,⟨8,zaN,xs,false⟩),(302,⟨12,zar,ys,false⟩)]++frM b 1001 l⟩=(some ⟨[(14,AV.loc 14 9 0 0),(58,AV.agg [I e.Stamp.Time,I e.Stamp.Source,I e.Stamp.Seq,I e.Kind,I e.Script,I e.Part,I e.Value,I e.Marker,AV.sl 1 (List.map zak e.Pages)]),(4,AV.loc 4 2 0 0),(9,AV.mp (List.map zaj R)),(10,AV.loc 10 2 0 0),(11,I i),(12,AV.fp [I d.level,AV.sl 10 (List.map zai d.marks),I d.period,I d.started.Time,I d.started.Source,I d.started.Seq,AV.mp (List.map zaq d.noted),AV.sl 1 (List.map nBool d.watch.Last),B d.watch.Suspended,I d.good.Time,I d.good.Source,I d.good.Seq,B d.some,AV.sl 12 (List.map zag d.suspensions)]),(34,AV.fa 1 (List.map nDp ds)),(35,I i),(54,AV.v (.pointer (some p))),(57,AV.tup [AV.agg [I k.script,I k.part],AV.agg [I e.Stamp.Time,I e.Stamp.Source,I e.Stamp.Seq,I e.Kind,I e.Script,I e.Part,I e.Value,I e.Marker,AV.sl 1 (List.map zak e.Pages)]])],[(14,⟨9,zac,[zaa e],true⟩),(4,⟨2,zav,[[AV.v (.slice none 0 0),AV.v (.slice none 0 0)]],true⟩),(10,⟨2,zav,[[AV.row 301 8 0 (List.length xs),AV.row 302 12 0 (List.length ys)]],true⟩),(301,⟨8,zaN,xs,false⟩),(302,⟨12,zar,ys,false⟩)]++frM b 1001 l⟩):=by cases b <;> kernel_rfl
theorem f16 (b:Bool) (l:List zab) (ds:List (Option zah)) (R:List (zao×zaL)) (xs:List (List AV)) (ys:List (List AV)) (i:Int) (d:zah) (p:Addr) (e:zab):tReg zaQ zT 16 ⟨[(4,AV.loc 4 2 0 0),(9,AV.mp (List.map zaj R)),(10,AV.loc 10 2 0 0),(11,I i),(12,AV.fp [I d.level,AV.sl 10 (List.map zai d.marks),I d.period,I d.started.Time,I d.started.Source,I d.started.Seq,AV.mp (List.map zaq d.noted),AV.sl 1 (List.map nBool d.watch.Last),B d.watch.Suspended,I d.good.Time,I d.good.Source,I d.good.Seq,B d.some,AV.sl 12 (List.map zag d.suspensions)]),(14,AV.loc 14 9 0 0),(34,AV.fa 1 (List.map nDp ds)),(35,I i),(54,AV.v (.pointer (some p)))],[(4,⟨2,zav,[[AV.v (.slice none 0 0),AV.v (.slice none 0 0)]],true⟩),(10,⟨2,zav,[[AV.row 301 8 0 (List.length xs),AV.row 302 12 0 (List.length ys)]],true⟩),(14,⟨9,zac,[zaa e],true⟩),(301,⟨8,zaN,xs,false⟩),(302,⟨12,zar,ys,false⟩)]++frM b 1001 l⟩=(chk (xs.length=xs.length)<|
 chk ((xs.length+1)*(64+1)≤1099511627776)<|
 some ⟨[(4,AV.loc 4 2 0 0),(9,AV.mp (List.map zaj R)),(10,AV.loc 10 2 0 0),(11,I i),(12,AV.fp [I d.level,AV.sl 10 (List.map zai d.marks),I d.period,I d.started.Time,I d.started.Source,I d.started.Seq,AV.mp (List.map zaq d.noted),AV.sl 1 (List.map nBool d.watch.Last),B d.watch.Suspended,I d.good.Time,I d.good.Source,I d.good.Seq,B d.some,AV.sl 12 (List.map zag d.suspensions)]),(34,AV.fa 1 (List.map nDp ds)),(35,I i),(54,AV.v (.pointer (some p)))],[(4,⟨2,zav,[[AV.v (.slice none 0 0),AV.v (.slice none 0 0)]],true⟩),(10,⟨2,zav,[[AV.row 301 8 0 (List.length (xs++([[I e.Script,I e.Part,I i,I d.level,I e.Value,I e.Stamp.Time,I e.Stamp.Source,I e.Stamp.Seq]]))),AV.row 302 12 0 (List.length ys)]],true⟩),(301,⟨8,zaN,xs++([za1 (⟨e.Script,e.Part,i,d.level,e.Value,⟨e.Stamp.Time,e.Stamp.Source,e.Stamp.Seq⟩⟩)]),false⟩),(302,⟨12,zar,ys,false⟩)]++frM b 1001 l⟩):=by cases b <;> kernel_rfl
theorem f17 (b:Bool) (l:List zab) (ds:List (Option zah)) (R:List (zao×zaL)) (xs:List (List AV)) (ys:List (List AV)) (i:Int):tReg zaQ zT 17 ⟨[(4,AV.loc 4 2 0 0),(9,AV.mp (List.map zaj R)),(10,AV.loc 10 2 0 0),(34,AV.fa 1 (List.map nDp ds)),(35,I i)],[(4,⟨2,zav,[[AV.v (.slice none 0 0),AV.v (.slice none 0 0)]],true⟩),(10,⟨2,zav,[[AV.row 301 8 0 (List.length xs),AV.row 302 12 0 (List.length ys)]],true⟩),(301,⟨8,zaN,xs,false⟩),(302,⟨12,zar,ys,false⟩)]++frM b 1001 l⟩=(some ⟨[(4,AV.loc 4 2 0 0),(9,AV.mp (List.map zaj R)),(10,AV.loc 10 2 0 0),(34,AV.fa 1 (List.map nDp ds)),(35,I (w64 (i+1)))],[(4,⟨2,zav,[[AV.v (.slice none 0 0),AV.v (.slice none 0 0)]],true⟩),(10,⟨2,zav,[[AV.row 301 8 0 (List.length xs),AV.row 302 12 0 (List.length ys)]],true⟩),(301,⟨8,zaN,xs,false⟩),(302,⟨12,zar,ys,false⟩)]++frM b 1001 l⟩):=by cases b <;> kernel_rfl
theorem f18 (b:Bool) (l:List zab) (gs:List zbp) (ys:List (List AV)):tReg zaQ zT 18 ⟨[(4,AV.loc 4 2 0 0),(10,AV.loc 10 2 0 0)],[(4,⟨2,zav,[[AV.v (.slice none 0 0),AV.v (.slice none 0 0)]],true⟩),(10,⟨2,zav,[[AV.row 301 8 0 (List.length (List.map za1 gs)),AV.row 302 12 0 (List.length ys)]],true⟩),(301,⟨8,zaN,List.map za1 gs,false⟩),(302,⟨12,zar,ys,false⟩)]++frM b 1001 l⟩=(callD zbk (cw zfg [AV.row 1000 8 0 (List.length (List.map za1 gs)),AV.fn zed []] [(1000,⟨8,zaN,List.map za1 gs,false⟩)]) fun (r0:(List zbp))=>some ⟨[(4,AV.loc 4 2 0 0),(10,AV.loc 10 2 0 0)],[(4,⟨2,zav,[[AV.v (.slice none 0 0),AV.v (.slice none 0 0)]],true⟩),(10,⟨2,zav,[[AV.row 301 8 0 ((List.map za1 gs).length),AV.row 302 12 0 (List.length ys)]],true⟩),(301,⟨8,zaN,List.map za1 r0,false⟩),(302,⟨12,zar,ys,false⟩)]++frM b 1001 l⟩):=by cases b <;> kernel_rfl
theorem f19 (b:Bool) (l:List zab) (xs:List (List AV)) (ys:List (List AV)):tReg zaQ zT 19 ⟨[(4,AV.loc 4 2 0 0),(10,AV.loc 10 2 0 0)],[(4,⟨2,zav,[[AV.v (.slice none 0 0),AV.v (.slice none 0 0)]],true⟩),(10,⟨2,zav,[[AV.row 301 8 0 (List.length xs),AV.row 302 12 0 (List.length ys)]],true⟩),(301,⟨8,zaN,xs,false⟩),(302,⟨12,zar,ys,false⟩)]++frM b 1001 l⟩=(some ⟨[(4,AV.loc 4 2 0 0),(5,I 0)],[(4,⟨2,zav,[[AV.row 301 8 0 (List.length xs),AV.row 302 12 0 (List.length ys)]],true⟩),(301,⟨8,zaN,xs,false⟩),(302,⟨12,zar,ys,false⟩)]++frM b 1001 l⟩):=by cases b <;> kernel_rfl
theorem f3 (s:zaA) (l:List zab):tReg zaQ zT 3 ⟨[(1,AV.row 1001 9 0 (List.length (List.map zaa l))),(2,AV.loc 2 9 0 0),(4,AV.loc 4 2 0 0)],[(2,⟨9,zay,[zau s],true⟩),(4,⟨2,zav,[[AV.v (.slice none 0 0),AV.v (.slice none 0 0)]],true⟩),(1001,⟨9,zac,List.map zaa l,false⟩)]⟩=(callD ze1 (cw zbh [AV.row 1000 9 0 (List.length (List.map zaa l))] [(1000,⟨9,zac,List.map zaa l,false⟩)]) fun (r0:((List zab)×Int)×(List zab))=>some ⟨[(2,AV.loc 2 9 0 0),(4,AV.loc 4 2 0 0),(6,AV.sl 9 (List.map zaa r0.fst.fst)),(7,I r0.fst.snd)],[(2,⟨9,zay,[zau s],true⟩),(4,⟨2,zav,[[AV.v (.slice none 0 0),AV.v (.slice none 0 0)]],true⟩),(1001,⟨9,zac,List.map zaa r0.snd,false⟩)]⟩):=by kernel_rfl
theorem f3f (s:zaA) (l:List zab):tReg zaQ zT 3 ⟨[(1,AV.sl 9 (List.map zaa l)),(2,AV.loc 2 9 0 0),(4,AV.loc 4 2 0 0)],[(2,⟨9,zay,[zau s],true⟩),(4,⟨2,zav,[[AV.v (.slice none 0 0),AV.v (.slice none 0 0)]],true⟩)]⟩=(callD zfN (cw zbh [AV.sl 9 (List.map zaa l)] []) fun (r0:(List zab)×Int)=>some ⟨[(2,AV.loc 2 9 0 0),(4,AV.loc 4 2 0 0),(6,AV.sl 9 (List.map zaa r0.fst)),(7,I r0.snd)],[(2,⟨9,zay,[zau s],true⟩),(4,⟨2,zav,[[AV.v (.slice none 0 0),AV.v (.slice none 0 0)]],true⟩)]⟩):=by kernel_rfl
set_option maxRecDepth 100000
def foC:Code:=(zaQ.fn.body).getD .skip
def foO (j:Nat):Array Oper:=opsAt j foC
def foD (j:Nat):Bool:=zqv j foC
theorem fo_hb:zaQ.fn.body=some foC:=by kernel_rfl
theorem fo_shape:foC=(.seq (.region 0 (foO 0) (foD 0)) (.seq (.seq (.region 1 (foO 1) (foD 1)) (.cond (.tmp 17) (.seq (.region 2 (foO 2) (foD 2)) .ret) .skip)) (.seq (.region 3 (foO 3) (foD 3)) (.seq (.seq (.region 4 (foO 4) (foD 4)) (.cond (.tmp 25) (.seq (.region 5 (foO 5) (foD 5)) .ret) .skip)) (.seq (.region 6 (foO 6) (foD 6)) (.seq (.region 7 (foO 7) (foD 7)) (.seq (.seq (.region 8 (foO 8) (foD 8)) (.block 0 (.loop (.seq (.region 9 (foO 9) (foD 9)) (.seq (.cond (.tmp 36) .skip (.exit 0)) (.seq (.block 1 (.seq (.region 10 (foO 10) (foD 10)) (.seq (.seq (.region 11 (foO 11) (foD 11)) (.cond (.tmp 42) (.exit 1) .skip)) (.seq (.region 12 (foO 12) (foD 12)) (.seq (.region 13 (foO 13) false) (.block 2 (.loop (.seq (.region 14 (foO 14) false) (.seq (.cond (.tmp 56) .skip (.exit 2)) (.block 3 (.seq (.region 15 (foO 15) false) (.region 16 (foO 16) (foD 16))))))))))))) (.region 17 (foO 17) (foD 17)))))))) (.seq (.region 18 (foO 18) (foD 18)) (.seq (.region 19 (foO 19) (foD 19)) .ret))))))))):=by kernel_rfl
theorem fo_r0:regOf 0 foC=some (.region 0 (foO 0) (foD 0)):=by kernel_rfl
theorem fo_r1:regOf 1 foC=some (.region 1 (foO 1) (foD 1)):=by kernel_rfl
theorem fo_r3:regOf 3 foC=some (.region 3 (foO 3) (foD 3)):=by kernel_rfl
theorem fo_r4:regOf 4 foC=some (.region 4 (foO 4) (foD 4)):=by kernel_rfl
theorem fo_r6:regOf 6 foC=some (.region 6 (foO 6) (foD 6)):=by kernel_rfl
theorem fo_r7:regOf 7 foC=some (.region 7 (foO 7) (foD 7)):=by kernel_rfl
theorem fo_r8:regOf 8 foC=some (.region 8 (foO 8) (foD 8)):=by kernel_rfl
theorem fo_r9:regOf 9 foC=some (.region 9 (foO 9) (foD 9)):=by kernel_rfl
theorem fo_r10:regOf 10 foC=some (.region 10 (foO 10) (foD 10)):=by kernel_rfl
theorem fo_r11:regOf 11 foC=some (.region 11 (foO 11) (foD 11)):=by kernel_rfl
theorem fo_r12:regOf 12 foC=some (.region 12 (foO 12) (foD 12)):=by kernel_rfl
theorem fo_r16:regOf 16 foC=some (.region 16 (foO 16) (foD 16)):=by kernel_rfl
theorem fo_r17:regOf 17 foC=some (.region 17 (foO 17) (foD 17)):=by kernel_rfl
theorem fo_r18:regOf 18 foC=some (.region 18 (foO 18) (foD 18)):=by kernel_rfl
theorem fo_r19:regOf 19 foC=some (.region 19 (foO 19) (foD 19)):=by kernel_rfl
theorem fo_r13:regOf 13 foC=some (.region 13 (foO 13) false):=by kernel_rfl
theorem fo_r15:regOf 15 foC=some (.region 15 (foO 15) false):=by kernel_rfl
theorem fo_n:zaQ.fn.ntmps≤1000:=by decide
def zbQ (ds:Desks) (R:Reop) (n:Nat):List zbp:=(List.range n).flatMap fun (i:Nat)=>match ds i with
 | some d=>(countS d R).map fun p=>zbP i d p.2
 | none=>[]
def suspTo (ds:Desks) (n:Nat):List zbf:=(List.range n).flatMap fun (i:Nat)=>match ds i with
 | some d=>d.suspensions
 | none=>[]
theorem zjH (ds:Desks) (R:Reop) (n:Nat):zbQ ds R (n+1)=zbQ ds R n++(match ds n with
 | some d=>(countS d R).map fun p=>zbP n d p.2
 | none=>[]):=by
 unfold zbQ; rw [zox,List.flatMap_append]; simp
theorem zkX (ds:Desks) (n:Nat):suspTo ds (n+1)=suspTo ds n++(match ds n with
 | some d=>d.suspensions
 | none=>[]):=by
 unfold suspTo; rw [zox,List.flatMap_append]; simp
theorem zxp (ds:Desks) {i:Nat} (hi:i < 100):(List.map nDp (deskL ds))[i]?=some (nDp (ds i)):=by unfold deskL; rw [zcK,zcK,zmq hi]; rfl
def gotOf (i:Nat) (d:zah) (cs:Counts) (done:List Nat):List zbp:=done.filterMap fun j=>cs[j]?.map fun p=>zbP i d p.2
noncomputable section
abbrev fA (b:Bool) (l:List zab):Nat×AV:=(1,frA b 1001 l)
abbrev fB2 (s:zaA):Nat×Ent:=(2,⟨9,zay,[zau s],true⟩)
abbrev fB4:Nat×Ent:=(4,⟨2,zav,[[.v (.slice none 0 0),.v (.slice none 0 0)]],true⟩)
abbrev fS2:Nat×AV:=(2,.loc 2 9 0 0)
abbrev fS4:Nat×AV:=(4,.loc 4 2 0 0)
abbrev fS10:Nat×AV:=(10,.loc 10 2 0 0)
abbrev fS9 (R:Reop):Nat×AV:=(9,.mp (List.map zaj R))
abbrev fS34 (ds:Desks):Nat×AV:=(34,.fa 1 (List.map nDp (deskL ds)))
abbrev fS35 (i:Nat):Nat×AV:=(35,I (i:Int))
abbrev fS11 (i:Nat):Nat×AV:=(11,I (i:Int))
abbrev fS12 (d:zah):Nat×AV:=(12,.fp (zcQ d))
abbrev fS54 (r:Nat):Nat×AV:=(54,.v (.pointer (some ⟨r,0,none⟩)))
abbrev fM (b:Bool) (gs:List zbp) (us:List zbf) (l:List zab):Mem:=[fB4,(10,⟨2,zav,[[.row 301 8 0 (List.map za1 gs).length,.row 302 12 0 (List.map zag us).length]],true⟩),(301,⟨8,zaN,List.map za1 gs,false⟩),(302,⟨12,zar,List.map zag us,false⟩)]++frM b 1001 l
abbrev stF (b:Bool) (l:List zab) (ds:Desks) (R:Reop) (gs:List zbp) (us:List zbf) (i:Nat):St:=⟨[fS4,fS9 R,fS10,fS34 ds,fS35 i],fM b gs us l⟩
abbrev stG (b:Bool) (l:List zab) (ds:Desks) (R:Reop) (gs:List zbp) (us:List zbf) (i:Nat) (d:zah) (r:Nat):St:=⟨[fS4,fS9 R,fS10,fS11 i,fS12 d,fS34 ds,fS35 i,fS54 r],fM b gs us l⟩
structure FoLegs (b:Bool) (s:zaA) (l:List zab) (ds:Desks) (R:Reop):Prop where
 cCheck:cw zgB [.agg (zau s)] []=some (zbe 0)
 cCanon:cw zbh [frA b 1000 l] (frM b 1000 l)=some (bif b then zdu ((canonS l,0),l) else zeQ (canonS l,0))
 cWalk:cw zcC [.agg (zau s),.sl 9 (List.map zaa (canonS l))] []=some (zhA (deskL ds,R))
 cCount:∀ i d,ds i=some d→cw zc8 [.fp (zcQ d),.mp (List.map zaj R)] []=some (zcz (countS d R))
 cSort:∀ gs,List.Perm gs (zbQ ds R 100)→cw zfg [.row 1000 8 0 (List.map za1 gs).length,.fn zed []] [(1000,⟨8,zaN,List.map za1 gs,false⟩)]=some (zdC (isort zbE (zbQ ds R 100)))
 few:(zbQ ds R 100).length < 1000000
 fewS:(suspTo ds 100).length < 1000000
theorem f3b (b:Bool) (s:zaA) (l:List zab) {ev:List zab} (h:cw zbh [frA b 1000 l] (frM b 1000 l)=some (bif b then zdu ((ev,0),l) else zeQ (ev,0))):tReg zaQ zT 3 ⟨[(1,frA b 1001 l),(2,AV.loc 2 9 0 0),(4,AV.loc 4 2 0 0)],[(2,⟨9,zay,[zau s],true⟩),(4,⟨2,zav,[[AV.v (.slice none 0 0),AV.v (.slice none 0 0)]],true⟩)]++frM b 1001 l⟩=some ⟨[(2,AV.loc 2 9 0 0),(4,AV.loc 4 2 0 0),(6,AV.sl 9 (List.map zaa ev)),(7,I 0)],[(2,⟨9,zay,[zau s],true⟩),(4,⟨2,zav,[[AV.v (.slice none 0 0),AV.v (.slice none 0 0)]],true⟩)]++frM b 1001 l⟩:=by
 cases b with
 | true=>have t:=f3 s l; rw [show cw zbh [AV.row 1000 9 0 (List.length (List.map zaa l))] [(1000,⟨9,zac,List.map zaa l,false⟩)]=some (zdu ((ev,0),l)) from h,zkq] at t; exact t
 | false=>have t:=f3f s l; rw [show cw zbh [AV.sl 9 (List.map zaa l)] []=some (zeQ (ev,0)) from h,znR] at t; exact t
section
variable {w0:World} {S0:Nat→Prop} {κ0:Kap} {K:Nat→Prop} {a:Act} {w:World}
abbrev Y0:Sat2:=fun _ _ _ _=>True
theorem foStep {j:Nat} {st st':St} {X:Sat2} (hX:Stable X) (hr:regOf j foC=some (.region j (foO j) (foD j))) (ht:tReg zaQ zT j st=some st')
  (h:NowP w0 S0 κ0 K zaQ.fn.ntmps X st a w) {Q:Exit→Act→World→Prop} (hQ:∀ a' w',NowP w0 S0 κ0 K zaQ.fn.ntmps X st' a' w'→Q .normal a' w'):(Code.region j (foO j) (foD j)).wp zaQ.P Q a w:=stepP hX fo_hb fo_n hr ht h hQ
theorem got_snoc (i:Nat) (d:zah) (cs:Counts) (done:List Nat) {j:Nat} {k:zao} {e:zab} (hj:cs[j]?=some (k,e)):gotOf i d cs (done++[j])=gotOf i d cs done++[zbP i d e]:=by unfold gotOf; rw [List.filterMap_append]; congr 1; simp [hj]
theorem got_perm (i:Nat) (d:zah) (cs:Counts) {done:List Nat} (hd:done.Nodup) (h1:∀ i∈done,i < cs.length) (h2:∀ i,i < cs.length→i∈done):List.Perm (gotOf i d cs done) (cs.map fun p=>zbP i d p.2):=by
 have hp:List.Perm done (List.range cs.length):=(zqZ hd List.nodup_range).2 (fun i=>⟨fun h=>zkb.2 (h1 i h),fun h=>h2 i (zkb.1 h)⟩); refine (hp.filterMap _).trans (.of_eq ?_)
 have e:(List.range cs.length).filterMap (fun j=>cs[j]?.map fun p=>zbP i d p.2)=((List.range cs.length).filterMap (fun j=>cs[j]?)).map fun p=>zbP i d p.2:=by rw [List.map_filterMap]
 rw [e,zlH]
theorem fo_range {b:Bool} {l:List zab} {ds:Desks} {R:Reop} {gs:List zbp} {us:List zbf} {i:Nat} {d:zah} (hc:cw zc8 [.fp (zcQ d),.mp (List.map zaj R)] []=some (zcz (countS d R))) (hfew:gs.length+(countS d R).length < 1000000)
  (h:NowP w0 S0 κ0 K zaQ.fn.ntmps Y0 ⟨[fS4,fS9 R,fS10,fS11 i,fS12 d,fS34 ds,fS35 i],fM b gs us l⟩ a w) {Q:Exit→Act→World→Prop}
  (hQ:∀ xs a' w',List.Perm xs ((countS d R).map fun p=>zbP i d p.2)→NowP w0 S0 κ0 K zaQ.fn.ntmps Y0 (stF b l ds R (gs++xs) us i) a' w'→Q .normal a' w'):(Code.seq (.region 13 (foO 13) false) (.block 2 (.loop (.seq (.region 14 (foO 14) false) (.seq (.cond (.tmp 56) .skip (.exit 2)) (.block 3 (.seq (.region 15 (foO 15) false) (.region 16 (foO 16) (foD 16))))))))).wp zaQ.P Q a w:=by
 refine wp_seq (wp_region ?_); have z2:(foO 13).size=4:=by kernel_rfl
 rw [z2,show List.range 4=List.range' 0 3++[3] from rfl]; have t2:=f13 b l (deskL ds) R (List.map za1 gs) (List.map zag us) i d; unfold zcQ at hc; rw [hc,zhG] at t2; refine segP Stable.none fo_hb fo_n fo_r13 t2 (by rw [z2]; decide) h (fun a1 w1 h1=>?_); have h2:=h1.freeze Stable.none fo_n [53] (by cases b <;> kernel_rfl) (st':=⟨[(53,.mp (List.map zby (countS d R))),(52,.mp (List.map zaj R)),(51,.fp (zcQ d)),fS4,fS9 R,fS10,fS11 i,fS12 d,fS34 ds,fS35 i],fM b gs us l⟩) (by cases b <;> kernel_rfl); rw [wpOps_cons]; refine range_op (t:=114) (k:=117) (e:=64) (by unfold opIs; kernel_rfl) (by cases b <;> kernel_rfl) (by decide) h2 (m:=53) (d:=54) rfl (fun a3 w3 r q en clock h3=>?_); have h4:=h3.trim Rng.stable [4,9,10,11,12,34,35,54] [] (st':=stG b l ds R gs us i d r) (by cases b <;> kernel_rfl); rw [show gs=gs++gotOf i d (countS d R) [] by simp [gotOf]] at h4; refine rng_loop (it:=54) (d1:=55) (d2:=56) (r:=r) (stf:=fun done=>stG b l ds R (gs++gotOf i d (countS d R) done) us i d r) [4,9,10,11,12,34,35,54] (by cases b <;> kernel_rfl) (by unfold opIs; kernel_rfl) (by unfold opIs; kernel_rfl) (by decide) (by decide) (fun _=>rfl) (fun _ _ _=>by cases b <;> kernel_rfl) ?_ h4 ?_
 · intro done j k v hd hl hjd hkv a w hn
   have hj:j < (countS d R).length:=by have:=(zbs.1 hkv).1; simpa using this
   rw [zcK,zaE hj] at hkv
   have hlen:(gs++gotOf i d (countS d R) done).length < 1000000:=by have h1:(gotOf i d (countS d R) done).length≤done.length:=zq0 _ _; have h2:=ztk hd (n:=(countS d R).length) (fun i hi=>by simpa using hl i hi); rw [zfy]; omega
   have hev:=got_snoc i d (countS d R) done (j:=j) (k:=(countS d R)[j].1) (e:=(countS d R)[j].2) (zaE hj); simp only [hev,← ziD]; generalize gs++gotOf i d (countS d R) done=xs at hn hlen ⊢; generalize hx:(countS d R)[j]=x at hkv ⊢; obtain ⟨kk,e⟩:=x; simp only [zdM,zas,zby,zbl,and_true] at hkv; obtain ⟨rfl,rfl⟩:=hkv; refine wp_block (wp_seq (wp_region ?_)); have z4:(foO 15).size=4:=by kernel_rfl
   rw [z4,show List.range 4=0 :: (List.range' 1 3++[]) from rfl,wpOps_cons]; refine entry_op (by unfold opIs; kernel_rfl) (by decide) hn (it:=54) (d:=57) rfl (by rw [zcK,zaE hj,hx]; rfl) (fun a1 w1 h1=>?_); have h2:=h1.trim Rng.stable [4,9,10,11,12,34,35,54,57] [] (st':=⟨[fS4,fS9 R,fS10,fS11 i,fS12 d,fS34 ds,fS35 i,fS54 r,(57,.tup [.agg (zbb kk),.agg (zaa e)])],fM b xs us l⟩) (by cases b <;> kernel_rfl); refine segP Rng.stable fo_hb fo_n fo_r15 (f15 b l (deskL ds) R (List.map za1 xs) (List.map zag us) i d _ kk e) (by rw [z4]; decide) h2 (fun a3 w3 h3=>?_); have h4:=h3.trim Rng.stable [4,9,10,11,12,14,34,35,54] [] (st':=⟨[fS4,fS9 R,fS10,fS11 i,fS12 d,(14,.loc 14 9 0 0),fS34 ds,fS35 i,fS54 r],[fB4,(10,⟨2,zav,[[.row 301 8 0 (List.map za1 xs).length,.row 302 12 0 (List.map zag us).length]],true⟩),(14,⟨9,zac,[zaa e],true⟩),(301,⟨8,zaN,List.map za1 xs,false⟩),(302,⟨12,zar,List.map zag us,false⟩)]++frM b 1001 l⟩) (by cases b <;> kernel_rfl); have t6:=f16 b l (deskL ds) R (List.map za1 xs) (List.map zag us) i d ⟨r,0,none⟩ e; rw [zap rfl,zap (by simp only [zat]; omega)] at t6; refine foStep Rng.stable fo_r16 t6 h4 (fun a7 w7 h7=>⟨rfl,?_⟩); have e1:List.map za1 (xs++[zbP i d e])=List.map za1 xs++[za1 (zbP i d e)]:=by simp
   unfold stG fM; rw [e1]; exact h7
 · intro done hd hl hall a' w' hn; refine hQ _ a' w' (got_perm i d (countS d R) hd (fun i hi=>by simpa using hl i hi) (fun i hi=>hall i (by simpa using hi))) ?_; exact (hn.trim Rng.stable [4,9,10,34,35] [] (st':=stF b l ds R (gs++gotOf i d (countS d R) done) us i) (by cases b <;> kernel_rfl)).drop
theorem fo_loop {b:Bool} {s:zaA} {l:List zab} {ds:Desks} {R:Reop} (g:FoLegs b s l ds R) (h:NowP w0 S0 κ0 K zaQ.fn.ntmps Y0 (stF b l ds R [] [] 0) a w) {Q:Exit→Act→World→Prop}
  (hQ:∀ gs a' w',List.Perm gs (zbQ ds R 100)→NowP w0 S0 κ0 K zaQ.fn.ntmps Y0 (stF b l ds R gs (suspTo ds 100) 100) a' w'→Q .normal a' w'):(Code.wp zaQ.P (.block 0 (.loop (.seq (.region 9 (foO 9) (foD 9)) (.seq (.cond (.tmp 36) .skip (.exit 0)) (.seq (.block 1 (.seq (.region 10 (foO 10) (foD 10)) (.seq (.seq (.region 11 (foO 11) (foD 11)) (.cond (.tmp 42) (.exit 1) .skip)) (.seq (.region 12 (foO 12) (foD 12)) (.seq (.region 13 (foO 13) false) (.block 2 (.loop (.seq (.region 14 (foO 14) false) (.seq (.cond (.tmp 56) .skip (.exit 2)) (.block 3 (.seq (.region 15 (foO 15) false) (.region 16 (foO 16) (foD 16))))))))))))) (.region 17 (foO 17) (foD 17))))))) Q a w):=by
 have mono:∀ k,k≤100→(zbQ ds R k).length≤(zbQ ds R 100).length∧(suspTo ds k).length≤(suspTo ds 100).length:=fun k hk=>by
  induction hn:100 - k generalizing k with
  | zero =>
    have:k=100:=by omega
    subst this; exact ⟨zbR _,zbR _⟩
  | succ n ih=>have h1:=ih (k+1) (by omega) (by omega); rw [zjH,zkX,zfy,zfy] at h1; omega
 have hfew:=g.few; have hfewS:=g.fewS; refine wp_block (wp_loop (fun a w=>∃ k gs,k≤100∧List.Perm gs (zbQ ds R k)∧NowP w0 S0 κ0 K zaQ.fn.ntmps Y0 (stF b l ds R gs (suspTo ds k) k) a w) (fun a _=>100 - cnt a 35) ⟨0,[],zj9 _,zq1 _,h⟩ ?_)
 rintro a w ⟨k,gs,hk,hp,hn⟩
 have hc0:cnt a 35=k:=by rw [hn.cnt (n:=(k:Int)) rfl]; simp
 have hup:∀ (a':Act) (w':World) (gs':List zbp),k < 100→List.Perm gs' (zbQ ds R (k+1))→NowP w0 S0 κ0 K zaQ.fn.ntmps Y0 (stF b l ds R gs' (suspTo ds (k+1)) k) a' w'→(Code.region 17 (foO 17) (foD 17)).wp zaQ.P (Exit.then (fun a' w'=>(∃ k gs,k≤100∧List.Perm gs (zbQ ds R k)∧NowP w0 S0 κ0 K zaQ.fn.ntmps Y0 (stF b l ds R gs (suspTo ds k) k) a' w')∧100 - cnt a' 35 < 100 - cnt a 35) (Exit.inBlock 0 Q)) a' w':=fun a' w' gs' hk' hp' hn'=>by
  refine foStep Stable.none fo_r17 (f17 b l (deskL ds) R _ _ _) hn' (fun a6 w6 h6=>?_); rw [w6Q] at h6; refine ⟨⟨k+1,gs',hk',hp',by exact_mod_cast h6⟩,?_⟩; have:cnt a6 35=k+1:=by rw [h6.cnt (n:=(k:Int)+1) rfl]; omega
  omega
 refine wp_seq (foStep Stable.none fo_r9 (f9 b l (deskL ds) R _ _ _) hn (fun a2 w2 h2=>?_)); refine wp_seq (wp_cond (h2.bool (b:=decide ((k:Int) < 100)) rfl) ?_); by_cases hlt:k < 100
 · rw [decide_eq_true (by omega),if_pos rfl]; refine wp_skip ?_; have h3:=h2.trim Stable.none [4,9,10,34,35] [] (st':=stF b l ds R gs (suspTo ds k) k) (by cases b <;> kernel_rfl); have t:=f10 b l (deskL ds) R (List.map za1 gs) (List.map zag (suspTo ds k)) k; have hget:=zxp ds hlt; rw [cPQ,zap (show ((k:Int)) < 100 by omega)] at t; refine wp_seq (wp_block (wp_seq ?_))
   cases hd:ds k with
   | none =>
     rw [hd] at hget; rw [zpk (by simpa [nDp] using hget)] at t; refine foStep Stable.none fo_r10 t h3 (fun a4 w4 h4=>?_); refine wp_seq (wp_seq (foStep Stable.none fo_r11 (f11n b l (deskL ds) R _ _ _) h4 (fun a5 w5 h5=>?_))); refine wp_cond (h5.bool (b:=true) rfl) ?_; rw [if_pos rfl]; refine wp_exit ?_; have h6:=h5.trim Stable.none [4,9,10,34,35] [] (st':=stF b l ds R gs (suspTo ds k) k) (by cases b <;> kernel_rfl); refine hup a5 w5 gs hlt ?_ ?_
     · rw [zjH,hd]; simpa using hp
     · rw [zkX,hd]; simpa using h6
   | some d =>
     rw [hd] at hget; rw [zxr (D:=zeR) (x:=d) (by simpa [nDp] using hget)] at t; refine foStep Stable.none fo_r10 t h3 (fun a4 w4 h4=>?_); refine wp_seq (wp_seq (foStep Stable.none fo_r11 (f11d b l (deskL ds) R _ _ _ d) h4 (fun a5 w5 h5=>?_))); refine wp_cond (h5.bool (b:=false) rfl) ?_; rw [iNs]; refine wp_skip ?_; have h6:=h5.trim Stable.none [4,9,10,11,12,34,35] [] (st':=⟨[fS4,fS9 R,fS10,fS11 k,fS12 d,fS34 ds,fS35 k],fM b gs (suspTo ds k) l⟩) (by cases b <;> kernel_rfl); have hm:=mono (k+1) (by omega); rw [zjH,zkX,hd,zfy,zfy] at hm; simp only [zat] at hm; have t12:=f12 b l (deskL ds) R (List.map za1 gs) (List.map zag (suspTo ds k)) k d; rw [zap rfl,zap (by simp only [zat]; omega)] at t12; refine wp_seq (foStep Stable.none fo_r12 t12 h6 (fun a7 w7 h7=>?_))
     have e1:List.map zag (suspTo ds (k+1))=List.map zag (suspTo ds k)++List.map zag d.suspensions:=by rw [zkX,hd]; simp
     have h8:NowP w0 S0 κ0 K zaQ.fn.ntmps Y0 ⟨[fS4,fS9 R,fS10,fS11 k,fS12 d,fS34 ds,fS35 k],fM b gs (suspTo ds (k+1)) l⟩ a7 w7:=by unfold fM; rw [e1]; exact h7
     have hgl:gs.length=(zbQ ds R k).length:=hp.length_eq; refine fo_range (g.cCount k d hd) (by omega) h8 (fun xs a9 w9 hx h9=>?_); refine hup a9 w9 (gs++xs) hlt ?_ h9; rw [zjH,hd]; exact hp.append hx
 · rw [decide_eq_false (by omega),iNs]; have:k=100:=by omega
   subst this; exact wp_exit (hQ _ _ _ hp (h2.trim Stable.none [4,9,10,34,35] [] (by cases b <;> kernel_rfl)))
abbrev stZ (b:Bool) (l:List zab) (ds:Desks) (R:Reop):St:=⟨[fS4,(5,I 0)],[(4,⟨2,zav,[[.row 301 8 0 (List.map za1 (isort zbE (zbQ ds R 100))).length,.row 302 12 0 (List.map zag (suspTo ds 100)).length]],true⟩),(301,⟨8,zaN,List.map za1 (isort zbE (zbQ ds R 100)),false⟩),(302,⟨12,zar,List.map zag (suspTo ds 100),false⟩)]++frM b 1001 l⟩
theorem fo_body {b:Bool} {s:zaA} {l:List zab} {ds:Desks} {R:Reop} (g:FoLegs b s l ds R) (hl:(isort zbE (zbQ ds R 100)).length=(zbQ ds R 100).length) (h:NowP w0 S0 κ0 K zaQ.fn.ntmps Y0 ⟨[(0,.agg (zau s)),fA b l],(frM b 1001 l)⟩ a w):foC.wp zaQ.P (PostC w0 S0 κ0 K zaQ.fn.ntmps .ret (stZ b l ds R)) a w:=by
 rw [fo_shape]; refine wp_seq (foStep Stable.none fo_r0 (f0 b s l) h (fun a1 w1 h1=>?_)); have t1:=f1 b s l; rw [g.cCheck,zaX] at t1; refine wp_seq (wp_seq (foStep Stable.none fo_r1 t1 h1 (fun a2 w2 h2=>?_))); refine wp_cond (h2.bool (b:=false) rfl) ?_; rw [iNs]; refine wp_skip ?_; have h3:=h2.trim Stable.none [1,2,4] [] (st':=⟨[fA b l,fS2,fS4],[fB2 s,fB4]++frM b 1001 l⟩) (by cases b <;> kernel_rfl); have t3:=f3b b s l g.cCanon; refine wp_seq (foStep Stable.none fo_r3 t3 h3 (fun a4 w4 h4=>?_)); refine wp_seq (wp_seq (foStep Stable.none fo_r4 (f4 b s l (canonS l) 0) h4 (fun a5 w5 h5=>?_))); refine wp_cond (h5.bool (b:=false) rfl) ?_; rw [iNs]; refine wp_skip ?_; have h6:=h5.trim Stable.none [2,4,6] [] (st':=⟨[fS2,fS4,(6,.sl 9 (List.map zaa (canonS l)))],[fB2 s,fB4]++frM b 1001 l⟩) (by cases b <;> kernel_rfl); have t6:=f6 b s l (canonS l); rw [g.cWalk,zm9] at t6; refine wp_seq (foStep Stable.none fo_r6 t6 h6 (fun a7 w7 h7=>?_)); refine wp_seq (foStep Stable.none fo_r7 (f7 b l (deskL ds) R) h7 (fun a8 w8 h8=>?_)); refine wp_seq (wp_seq (foStep Stable.none fo_r8 (f8 b l (deskL ds) R [] []) h8 (fun a9 w9 h9=>?_))); refine fo_loop g h9 (fun gs a10 w10 hp h10=>?_); have h11:=h10.trim Stable.none [4,10] [] (st':=⟨[fS4,fS10],fM b gs (suspTo ds 100) l⟩) (by cases b <;> kernel_rfl); have t18:=f18 b l gs (List.map zag (suspTo ds 100)); rw [show List.length (List.map za1 gs)=(List.map za1 gs).length from rfl,g.cSort gs hp,zhE] at t18; refine wp_seq (foStep Stable.none fo_r18 t18 h11 (fun a12 w12 h12=>?_))
 have hlen:(List.map za1 gs).length=(List.map za1 (isort zbE (zbQ ds R 100))).length:=by rw [zat,zat,hp.length_eq,hl]
 rw [hlen] at h12; refine wp_seq (foStep Stable.none fo_r19 (f19 b l _ _) h12 (fun a13 w13 h13=>?_)); refine wp_ret ⟨rfl,?_⟩; obtain ⟨S,κ,hg,_⟩:=h13; exact ⟨S,κ,hg⟩
theorem zxt:enters zaQ.P zca=true:=by kernel_rfl
theorem fo_calls {b:Bool} {s:zaA} {l:List zab} {ds:Desks} {R:Reop} (g:FoLegs b s l ds R) (hl:(isort zbE (zbQ ds R 100)).length=(zbQ ds R 100).length) (w:World) (S:Nat→Prop) (κ:Kap) (vals:Array Value) (hvl:vals.size=2) (hS:∀ g,S g→g < w.heap.size)
  (hv:∀ (k:Nat) (a:AV) (x:Value),[AV.agg (zau s),frA b 1001 l][k]?=some a→vals[k]?=some x→VRel S κ (Dm (frM b 1001 l)) w a x)
  (hms:∀ d ent,Ab.look (frM b 1001 l) d=some ent→EntAt S κ (Dm (frM b 1001 l)) w (κ d) ent) (hinj:∀ d d' g c c',Dm (frM b 1001 l) d→Dm (frM b 1001 l) d'→κ d=some (g,c)→κ d'=some (g,c')→d=d'):Calls zaQ.P zca vals w (Ab.Left S κ (frM b 1001 l) (frM b 1001 l) (.tup [.agg (zc4 ⟨isort zbE (zbQ ds R 100),suspTo ds 100⟩),I 0]) w):=by
 have hf:zaQ.P.funcs[zca]?=some zaQ.fn:=by kernel_rfl
 refine zna (args:=[AV.agg (zau s),frA b 1001 l]) (frz:=false) (ex:=.ret) (st:=stZ b l ds R) hf fo_hb (show 2≤zaQ.fn.ntmps by decide) hvl hS hv hms hinj (fun id=>by simp) (fun a hg=>?_) ?_ ?_ ?_
 · obtain ⟨S,κ,hg⟩:=hg; exact fo_body g hl ⟨S,κ,hg,trivial⟩
 · unfold stZ zc4; simp only; generalize List.map za1 (isort zbE (zbQ ds R 100))=xs; generalize List.map zag (suspTo ds 100)=ys; rw [show zfd zaQ.P false zaQ.fn ⟨[fS4,(5,I 0)],[(4,⟨2,zav,[[.row 301 8 0 xs.length,.row 302 12 0 ys.length]],true⟩),(301,⟨8,zaN,xs,false⟩),(302,⟨12,zar,ys,false⟩)]++frM b 1001 l⟩=outOf false ([(4,⟨2,zav,[[.row 301 8 0 xs.length,.row 302 12 0 ys.length]],true⟩),(301,⟨8,zaN,xs,false⟩),(302,⟨12,zar,ys,false⟩)]++frM b 1001 l) (.tup [.agg [.row 301 8 0 xs.length,.row 302 12 0 ys.length],I 0]) from by cases b <;> kernel_rfl]; simp [outOf,snap,mapO,Ab.look]
 · cases b <;> kernel_rfl
 · cases b <;> kernel_rfl
end
end
def markEv (s:zaA) (i:Nat) (e:zab):Bool:=e.Kind == 0 && e.Stamp.Source.toNat == i && (fitS s e).isSome && (seedS s e.Script).isNone
theorem zrV (ds:Desks) (i:Nat) (d:zah):upd ds i d i=some d:=by simp [upd]
theorem zpt (ds:Desks) {i j:Nat} (d:zah) (h:j≠i):upd ds i d j=ds j:=by simp [upd,h]
theorem zz0 (a:zaL) (d:zah):(reinS a d).marks=d.marks:=by unfold reinS; split <;> rfl
theorem zzZ (a:zaL) (d:zah):(reinS a d).level=d.level:=by unfold reinS; split <;> rfl
theorem ztt (p:Int) (f:Bool) (g:zaL) (i:Nat) (m:zba):(voidIf p f g i m).event=m.event:=by unfold voidIf; split <;> rfl
theorem zz4 (id:Int) (a:zaL) (d:zah):(suspS id a d).marks.map (·.event)=d.marks.map (·.event):=by
 unfold suspS; simp only; apply zjr; intro j; rw [zcK,zcK,zjs]
 cases d.marks[j]? with
 | none=>rfl
 | some m=>simp [ztt]
theorem zzQ (s:zaA) (p:zaD) (sd:GSeed) (e:zab) (d:zah):(noteS s p sd e d).marks.map (·.event)=d.marks.map (·.event):=by
 unfold noteS; split
 · rfl
 · simp only; split
   · rfl
   · split
     · rfl
     · split
       · rw [zz4]
       · split <;> rfl
theorem zzP (s:zaA) (p:zaD) (sd:GSeed) (e:zab) (d:zah):(noteS s p sd e d).level=d.level:=by
 unfold noteS; split
 · rfl
 · simp only; split
   · rfl
   · split
     · rfl
     · split
       · rfl
       · split <;> rfl
theorem evS_desk (s:zaA) (st:Desks×Reop) (e:zab) (i:Nat):(∀ d,st.1 i=some d→∃ d',(evS s st e).1 i=some d'∧d'.marks.map (·.event)=d.marks.map (·.event)++(if markEv s i e then [e] else [])∧d'.level=d.level)∧(st.1 i=none→(evS s st e).1 i=none):=by
 have same:(evS s st e).1 i=st.1 i→markEv s i e=false→(∀ d,st.1 i=some d→∃ d',(evS s st e).1 i=some d'∧d'.marks.map (·.event)=d.marks.map (·.event)++(if markEv s i e then [e] else [])∧d'.level=d.level)∧(st.1 i=none→(evS s st e).1 i=none):=fun h1 h2=>⟨fun d hd=>⟨d,by rw [h1,hd],by rw [h2]; simp,rfl⟩,fun hn=>by rw [h1,hn]⟩
 by_cases k1:e.Kind=1
 · have hm:markEv s i e=false:=by unfold markEv; simp [k1]
   cases hd:st.1 e.Marker.toNat with
   | none=>exact same (by unfold evS; rw [if_pos k1]; simp only [hd]) hm
   | some d =>
     have he:(evS s st e).1=upd st.1 e.Marker.toNat (reinS e.Stamp d):=by unfold evS; rw [if_pos k1]; simp only [hd]
     by_cases hi:i=e.Marker.toNat
     · subst hi; refine ⟨fun d' hd'=>⟨_,by rw [he,zrV],?_,?_⟩,fun hn=>by rw [hn] at hd; cases hd⟩
       · rw [hd] at hd'; injection hd' with hd'; subst hd'; rw [hm,zz0]; simp
       · rw [hd] at hd'; injection hd' with hd'; subst hd'; exact zzZ _ _
     · exact same (by rw [he,zpt _ _ hi]) hm
 by_cases k2:e.Kind=2
 · have hm:markEv s i e=false:=by unfold markEv; simp [k2]
   exact same (by unfold evS; rw [if_neg k1,if_pos k2]) hm
 by_cases k0:e.Kind=0
 case neg =>
  have hm:markEv s i e=false:=by unfold markEv; simp [k0]
  exact same (by unfold evS; rw [if_neg k1,if_neg k2,if_neg k0]) hm
 cases hd:st.1 e.Stamp.Source.toNat with
 | none =>
   have he:(evS s st e).1=st.1:=by unfold evS; rw [if_neg k1,if_neg k2,if_pos k0]; simp only [hd]
   refine ⟨fun d hd'=>⟨d,by rw [he,hd'],?_,rfl⟩,fun hn=>by rw [he,hn]⟩
   have:markEv s i e=false:=by
    unfold markEv
    have:(e.Stamp.Source.toNat == i)=false:=by rw [beq_eq_false_iff_ne]; intro h; rw [h] at hd; rw [hd] at hd'; cases hd'
    simp [this]
   rw [this]; simp
 | some d =>
   cases hf:fitS s e with
   | none =>
     have he:(evS s st e).1=st.1:=by unfold evS; rw [if_neg k1,if_neg k2,if_pos k0]; simp only [hd,hf]
     exact same (by rw [he]) (by unfold markEv; simp [hf])
   | some q =>
     obtain ⟨x,p,y,h1,h2,h3,h4,h5,h6,h7,h8⟩:=fitS_at hf; have hp:s.Papers[q]?=some p:=(zh5 h3).1
     cases hs:seedS s e.Script with
     | some sd =>
       have he:(evS s st e).1=upd st.1 e.Stamp.Source.toNat (noteS s p sd e d):=by unfold evS; rw [if_neg k1,if_neg k2,if_pos k0]; simp only [hd,hf,hs,hp]
       have hm:markEv s i e=false:=by unfold markEv; simp [hs]
       by_cases hi:i=e.Stamp.Source.toNat
       · subst hi; refine ⟨fun d' hd'=>⟨_,by rw [he,zrV],?_,?_⟩,fun hn=>by rw [hn] at hd; cases hd⟩
         · rw [hd] at hd'; injection hd' with hd'; subst hd'; rw [hm,zzQ]; simp
         · rw [hd] at hd'; injection hd' with hd'; subst hd'; exact zzP _ _ _ _ _
       · exact same (by rw [he,zpt _ _ hi]) hm
     | none =>
       have he:(evS s st e).1=upd st.1 e.Stamp.Source.toNat { d with marks:=d.marks++[⟨e,d.watch.Suspended⟩] }:=by unfold evS; rw [if_neg k1,if_neg k2,if_pos k0]; simp only [hd,hf,hs]
       by_cases hi:i=e.Stamp.Source.toNat
       · subst hi; have hm:markEv s e.Stamp.Source.toNat e=true:=by unfold markEv; simp [k0,hf,hs]
         refine ⟨fun d' hd'=>⟨_,by rw [he,zrV],?_,?_⟩,fun hn=>by rw [hn] at hd; cases hd⟩
         · rw [hd] at hd'; injection hd' with hd'; subst hd'; rw [hm]; simp
         · rw [hd] at hd'; injection hd' with hd'; subst hd'; rfl
       · exact same (by rw [he,zpt _ _ hi]) (by unfold markEv; simp [show ¬ e.Stamp.Source.toNat=i from fun h=>hi h.symm])
theorem zxX (s:zaA):∀ (ev:List zab) (st:Desks×Reop) (i:Nat),(∀ d,st.1 i=some d→∃ d',(ev.foldl (evS s) st).1 i=some d'∧d'.marks.map (·.event)=d.marks.map (·.event)++ev.filter (markEv s i)∧d'.level=d.level)∧(st.1 i=none→(ev.foldl (evS s) st).1 i=none)
 | [],st,i=>⟨fun d hd=>⟨d,hd,by simp,rfl⟩,fun h=>h⟩
 | e :: r,st,i=>by obtain ⟨h1,h2⟩:=evS_desk s st e i; obtain ⟨h3,h4⟩:=zxX s r (evS s st e) i; refine ⟨fun d hd=>?_,fun hn=>h4 (h2 hn)⟩; obtain ⟨d',e1,e2,e3⟩:=h1 d hd; obtain ⟨d'',e4,e5,e6⟩:=h3 d' e1; refine ⟨d'',e4,?_,e6.trans e3⟩; rw [e5,e2,ziD,zhR]; split <;> simp
theorem zxR (ms:List za6) (i:Nat):∀ d,seats ms i=some d→∃ m∈ms,m.ID.toNat=i∧d=desk0 m.Level:=by
 have key:∀ (ms:List za6) (ds:Desks) d,(ms.foldl (fun ds m=>upd ds m.ID.toNat (desk0 m.Level)) ds) i=some d→ds i=some d∨∃ m∈ms,m.ID.toNat=i∧d=desk0 m.Level:=by
  intro ms
  induction ms with
  | nil=>intro ds d h; exact .inl h
  | cons m ms ih =>
    intro ds d h; rcases ih _ d h with h | ⟨m',h1,h2⟩
    · replace h:upd ds m.ID.toNat (desk0 m.Level) i=some d:=h; by_cases hi:i=m.ID.toNat
      · rw [hi,zrV] at h; injection h with h; exact .inr ⟨m,by simp,hi.symm,h.symm⟩
      · rw [zpt _ _ hi] at h; exact .inl h
    · exact .inr ⟨m',by simp [h1],h2⟩
 intro d h; rcases key ms (fun _=>none) d h with h | h
 · cases h
 · exact h
theorem zrW {s:zaA} {ev:List zab} {i:Nat} {d:zah} (h:(walkS s ev).1 i=some d):d.marks.map (·.event)=ev.filter (markEv s i):=by
 obtain ⟨h1,h2⟩:=zxX s ev (seats s.Markers,[]) i
 cases hs:seats s.Markers i with
 | none=>rw [show (walkS s ev).1 i=none from h2 hs] at h; cases h
 | some d0=>obtain ⟨d',e1,e2,_⟩:=h1 d0 hs; obtain ⟨m,_,_,hd0⟩:=zxR _ _ _ hs; rw [show (walkS s ev).1 i=some d' from e1] at h; injection h with h; subst h; rw [e2,hd0]; simp [desk0]
theorem filters_le {α:Type} (p:Nat→α→Bool) (hp:∀ x i j,p i x=true→p j x=true→i=j):∀ (n:Nat) (l:List α),((List.range n).map fun i=>(l.filter (p i)).length).sum≤l.length:=by
 intro n l
 induction l with
 | nil =>
   simp only [List.filter_nil,zqU]
   induction n with
   | zero=>simp
   | succ n ih=>rw [zox,zlb,zoy]; simp; omega
 | cons x r ih =>
   have:((List.range n).map fun i=>((x :: r).filter (p i)).length).sum≤((List.range n).map fun i=>(r.filter (p i)).length).sum+1:=by
    have key:∀ n,((List.range n).map fun i=>((x :: r).filter (p i)).length).sum=((List.range n).map fun i=>(r.filter (p i)).length).sum+(if ∃ i,i < n∧p i x=true then 1 else 0):=by
     intro n
     induction n with
     | zero=>simp
     | succ n ihn =>
       rw [zox,zlb,zlb,zoy,zoy,ihn]; simp only [zck,List.map_nil,List.sum_cons,List.sum_nil,zj6,zhR]; by_cases hn:p n x=true
       · rw [if_pos hn,if_neg (fun ⟨i,h1,h2⟩=>by have:=hp x i n h2 hn; omega),if_pos ⟨n,by omega,hn⟩]; simp only [zf0]; omega
       · rw [if_neg hn]; by_cases h:∃ i,i < n∧p i x=true
         · rw [if_pos h,if_pos (by obtain ⟨i,h1,h2⟩:=h; exact ⟨i,by omega,h2⟩)]; omega
         · rw [if_neg h,if_neg (fun ⟨i,h1,h2⟩=>by
            by_cases hi:i=n
            · rw [hi] at h2; exact hn h2
            · exact h ⟨i,by omega,h2⟩)]
           omega
    rw [key n]; split <;> omega
   simp only [zf0]; omega
theorem zul (d:zah) (R:Reop):∀ (l:List zba) (m:Counts),(l.foldl (zdF d R) m).length≤m.length+l.length
 | [],m=>by simp
 | x :: r,m=>by
   have h1:=zul d R r (zdF d R m x)
   have h2:(zdF d R m x).length≤m.length+1:=by
    unfold zdF; split
    · omega
    · split
      · omega
      · exact zrE
   simp only [zhs,zf0]; omega
theorem countS_len (d:zah) (R:Reop):(countS d R).length≤d.marks.length:=by have:=zul d R d.marks []; simpa [countS] using this
theorem sum_flat {α:Type} (f:Nat→List α):∀ n,((List.range n).flatMap f).length=((List.range n).map fun i=>(f i).length).sum:=by intro n; rw [List.length_flatMap]
theorem sum_le_sum {f g:Nat→Nat} (h:∀ i,f i≤g i):∀ n,((List.range n).map f).sum≤((List.range n).map g).sum:=by
 intro n
 induction n with
 | zero=>simp
 | succ n ih=>rw [zox,zlb,zlb,zoy,zoy]; have:=h n; simp; omega
theorem zpT (s:zaA) (ev:List zab) (R:Reop) (n:Nat):(zbQ (walkS s ev).1 R n).length≤ev.length:=by
 unfold zbQ; rw [sum_flat]; refine zdw (sum_le_sum (g:=fun i=>(ev.filter (markEv s i)).length) (fun i=>?_) n) (filters_le (markEv s) (fun x i j h1 h2=>?_) n ev)
 · cases hd:(walkS s ev).1 i with
   | none=>simp
   | some d=>simp only [zat]; have h1:=countS_len d R; have h2:=congrArg List.length (zrW hd); simp only [zat] at h2; omega
 · unfold markEv at h1 h2; simp only [zbZ,beq_iff_eq] at h1 h2; omega
def KeyedC (m:Counts):Prop:=(m.map (·.1)).Nodup∧∀ p∈m,p.1=⟨p.2.Script,p.2.Part⟩
theorem zoK (d:zah) (R:Reop):KeyedC (countS d R):=by
 have key:∀ (l:List zba) (m:Counts),KeyedC m→KeyedC (l.foldl (zdF d R) m):=by
  intro l
  induction l with
  | nil=>intro m h; exact h
  | cons x r ih =>
    intro m h; refine ih _ ?_; unfold zdF; split
    · exact h
    · split
      · exact h
      · refine ⟨(zth h.1).1,fun p hp=>?_⟩; rcases zlk hp with rfl | hp
        · rfl
        · exact h.2 p hp
 exact key _ [] ⟨by simp,by simp⟩
theorem zpj {d:zah} {R:Reop}:∀ {l:List zba} {m:Counts} {p:zao×zab},p∈l.foldl (zdF d R) m→p∈m∨∃ x∈l,p.2=x.event∧x.void=false∧¬ (d.level < 2∧reopB R x.event=true)
 | [],m,p,h=>.inl h
 | x :: r,m,p,h=>by
   rcases zpj (l:=r) (m:=zdF d R m x) h with h | ⟨y,h1,h2⟩
   · unfold zdF at h; split at h
     · exact .inl h
     · split at h
       · exact .inl h
       · rename_i hv hr; rcases zlk h with rfl | h
         · exact .inr ⟨x,by simp,rfl,by simpa using hv,hr⟩
         · exact .inl h
   · exact .inr ⟨y,by simp [h1],h2⟩
theorem countS_mem {d:zah} {R:Reop} {p:zao×zab} (h:p∈countS d R):∃ x∈d.marks,p.2=x.event∧x.void=false∧¬ (d.level < 2∧reopB R x.event=true):=by
 rcases zpj h with h | h
 · cases h
 · exact h
theorem zkT {ds:Desks} {R:Reop} {n:Nat} {g:zbp}:g∈zbQ ds R n↔∃ i,i < n∧∃ d,ds i=some d∧∃ p∈countS d R,g=zbP i d p.2:=by
 unfold zbQ; rw [zci]; constructor
 · rintro ⟨i,hi,hg⟩
   cases hd:ds i with
   | none=>rw [hd] at hg; cases hg
   | some d=>rw [hd] at hg; obtain ⟨p,hp,rfl⟩:=zbw.1 hg; exact ⟨i,zkb.1 hi,d,hd,p,hp,rfl⟩
 · rintro ⟨i,hi,d,hd,p,hp,rfl⟩
   refine ⟨i,zkb.2 hi,?_⟩; rw [hd]; exact zbw.2 ⟨p,hp,rfl⟩
theorem zs9 {ds:Desks} {R:Reop} {n:Nat} {a b:zbp} (ha:a∈zbQ ds R n) (hb:b∈zbQ ds R n) (h1:a.Script=b.Script) (h2:a.Part=b.Part) (h3:a.Marker=b.Marker):a=b:=by
 obtain ⟨i,hi,d,hd,p,hp,rfl⟩:=zkT.1 ha; obtain ⟨j,hj,f,hf,q,hq,rfl⟩:=zkT.1 hb; unfold zbP at h1 h2 h3; simp only at h1 h2 h3; have:i=j:=by omega
 subst this; rw [hd] at hf; injection hf with hf; subst hf; obtain ⟨k1,k2⟩:=zoK d R; have e:p.1=q.1:=by rw [k2 p hp,k2 q hq,h1,h2]
 have:p=q:=by
  have:∀ {l:Counts},(l.map (·.1)).Nodup→p∈l→q∈l→p=q:=by
   intro l
   induction l with
   | nil=>intro _ h; cases h
   | cons x r ih =>
     intro hn h1 h2; obtain ⟨n1,n2⟩:=zfz.1 hn; rcases zaZ.1 h1 with e1 | h1
     · rcases zaZ.1 h2 with e2 | h2
       · rw [e1,e2]
       · exact absurd (zbw.2 ⟨q,h2,by rw [← e,e1]⟩) n1
     · rcases zaZ.1 h2 with e2 | h2
       · exact absurd (zbw.2 ⟨p,h1,by rw [e,e2]⟩) n1
       · exact ih n2 h1 h2
  exact this k1 hp hq
 rw [this]
set_option maxRecDepth 10000
theorem ev_inj {l l':List zab} (h:List.map zaa l=List.map zaa l'):l=l':=Eq.mp (TyD.minj zaz) h
theorem canon_ok:CallOK zP (single zbh zOrc):=by
 intro f args ms r ms' h; unfold single at h; split at h
 case isFalse=>cases h
 rename_i hf; subst hf
 cases ms with
 | nil =>
   have hz:zOrc zbh args []=zqI args:=by unfold zOrc; simp (decide:=true) only [if_false,if_true]
   rw [hz] at h; clear hz; unfold zqI at h; split at h
   case isFalse=>cases h
   rename_i hex; have hsp:=hex.choose_spec; generalize hex.choose=l at h hsp; obtain ⟨rfl,hl⟩:=hsp; injection h with h; injection h with h1 h2; subst h1 h2; refine ⟨zxm,fun w S κ vals hvl hS hv hms hinj=>?_⟩; exact cn_calls (cnLegs false hl) w S κ vals hvl hS hv hms hinj
 | cons a m =>
   have hz:zOrc zbh args (a :: m)=oCanon args (a :: m):=by unfold zOrc; simp (decide:=true) only [if_false,if_true]
   rw [hz] at h; clear hz; unfold oCanon at h; split at h
   case isFalse=>cases h
   rename_i hex; have hsp:=hex.choose_spec; generalize hex.choose=l at h hsp; obtain ⟨⟨ha,hm⟩,hl⟩:=hsp; subst ha; rw [hm] at h ⊢; injection h with h; injection h with h1 h2; subst h1 h2; refine ⟨zxm,fun w S κ vals hvl hS hv hms hinj=>?_⟩; exact cn_calls (cnLegs true hl) w S κ vals hvl hS hv hms hinj
theorem c_canon (b:Bool) {l:List zab} (h:FewEv l):cw zbh [frA b 1000 l] (frM b 1000 l)=some (bif b then zdu ((canonS l,0),l) else zeQ (canonS l,0)):=by
 cases b with
 | true =>
   refine zok canon_ok ?_; show zOrc zbh [(lentEv 1000 l).1] (lentEv 1000 l).2=_
   have hz:zOrc zbh [(lentEv 1000 l).1] (lentEv 1000 l).2=oCanon [(lentEv 1000 l).1] (lentEv 1000 l).2:=by unfold zOrc; simp (decide:=true) only [if_false,if_true]; rfl
   rw [hz]; unfold oCanon; have hex:∃ l',([(lentEv 1000 l).1]=[(lentEv 1000 l').1]∧(lentEv 1000 l).2=(lentEv 1000 l').2)∧FewEv l':=⟨l,⟨rfl,rfl⟩,h⟩
   rw [dif_pos hex]; have hsp:=hex.choose_spec; generalize hex.choose=l' at hsp
   have:l=l':=by have h2:=hsp.1.2; unfold lentEv at h2; simp only [zbl,zaF,Ent.mk.injEq,true_and,and_true] at h2; exact ev_inj h2
   subst this; rfl
 | false =>
   refine zok canon_ok ?_; show zOrc zbh [.sl 9 (List.map zaa l)] []=_
   have hz:zOrc zbh [.sl 9 (List.map zaa l)] []=zqI [.sl 9 (List.map zaa l)]:=by unfold zOrc; simp (decide:=true) only [if_false,if_true]
   rw [hz]; unfold zqI; have hex:∃ l',[AV.sl 9 (List.map zaa l)]=[AV.sl 9 (List.map zaa l')]∧FewEv l':=⟨l,rfl,h⟩
   rw [dif_pos hex]; have hsp:=hex.choose_spec; generalize hex.choose=l' at hsp
   have:l=l':=by have h2:=hsp.1; simp only [zbl,AV.sl.injEq,true_and,and_true] at h2; exact ev_inj h2
   subst this; rfl
theorem c_walk {s:zaA} {ev:List zab} (h:OkRun s ev):cw zcC [.agg (zau s),.sl 9 (List.map zaa ev)] []=some (zhA (deskL (walkS s ev).1,(walkS s ev).2)):=by
 refine zok (walk_ok ci_ok cb_ok) ?_; show zOrc zcC [.agg (zau s),.sl 9 (List.map zaa ev)] []=_
 have hz:zOrc zcC [.agg (zau s),.sl 9 (List.map zaa ev)] []=oWalk [.agg (zau s),.sl 9 (List.map zaa ev)]:=by unfold zOrc; simp (decide:=true) only [if_false,if_true]
 rw [hz]; unfold oWalk; have hex:∃ s' ev',[AV.agg (zau s),AV.sl 9 (List.map zaa ev)]=[.agg (zau s'),.sl 9 (List.map zaa ev')]∧OkRun s' ev':=⟨s,ev,rfl,h⟩
 rw [dif_pos hex]; have hsp:=hex.choose_spec.choose_spec; generalize hex.choose_spec.choose=ev' at hsp; generalize hex.choose=s' at hsp; obtain ⟨h1,_⟩:=hsp; simp only [zbl,AV.agg.injEq,AV.sl.injEq,true_and,and_true] at h1; obtain ⟨h1,h2⟩:=h1; have e1:s=s':=zhu.inj h1; have e2:ev=ev':=ev_inj h2; subst e1 e2; rfl
theorem zyO (R:Reop) (e:zab):cw zhW [.mp (List.map zaj R),.agg (zaa e)] []=some (zan (reopB R e)):=by
 refine zrn R e ?_; have last:zdl R e 2=some (zan false):=zhe _ _ _ (by rw [zaU (by omega)]; rfl)
 have one:zdl R e 1=some (zan (match mfind ⟨e.Script,-1⟩ R with | some a=>lessS e.Stamp a | none=>false)):=by
  refine zhe _ _ _ ?_; rw [zaH (by omega),cPQ,show [zaV.enc e.Part,zaV.enc (-1)]=List.map zak [e.Part,-1] from rfl,zdk]; simp only [show (1:Int).toNat=1 from rfl,zmv,ze3,za9]; rw [zhg,w6Q,show (1:Int)+1=2 from rfl,last]
  cases mfind ⟨e.Script,-1⟩ R with
  | none=>rfl
  | some a=>simp only [zmt,zaM,ziB]; rw [zqq,zaX,zoJ]; cases lessS e.Stamp a <;> rfl
 refine zhe _ _ _ ?_; rw [zaH (by omega),cPQ,show [zaV.enc e.Part,zaV.enc (-1)]=List.map zak [e.Part,-1] from rfl,zdk]; simp only [show (0:Int).toNat=0 from rfl,ze3,za9]; rw [zhg,w6Q,show (0:Int)+1=1 from rfl,one]; unfold reopB
 cases mfind ⟨e.Script,e.Part⟩ R with
 | none=>rw [zlt]; rfl
 | some a =>
   simp only [zmt,zaM,ziB]; rw [zqq,zaX,zoJ]
   cases lessS e.Stamp a with
   | true=>rfl
   | false=>rw [zlt]; rfl
theorem zv6 (d:zah) (R:Reop) (hl:d.marks.length≤1000000):cw zc8 [.fp (zcQ d),.mp (List.map zaj R)] []=some (zcz (countS d R)):=by
 refine zo7 d R ?_
 have key:∀ (n i:Nat) (m:Counts),i+n=d.marks.length→zb9 d R (List.map zby m) i=some (zcz ((d.marks.drop i).foldl (zdF d R) m)):=by
  intro n
  induction n with
  | zero=>intro i m hi; refine zjf _ _ _ _ ?_; rw [zat,zaU (by omega),zhQ (by omega)]; rfl
  | succ n ih =>
    intro i m hi; have hlt:i < d.marks.length:=by omega
    refine zjf _ _ _ _ ?_; rw [zat,zaH (by omega),cPQ,zbg,zgz,zaE hlt,za9,w6Q,show ((i:Int)+1)=((i+1:Nat):Int) by omega,zfG hlt,zhs]
    have put:msetD zP 117 64 (.agg (zcD.enc ⟨d.marks[i].event.Script,d.marks[i].event.Part⟩)) (.agg (zaa d.marks[i].event)) (List.map zby m) (fun m4=>zb9 d R m4 ((i+1:Nat):Int)) =
      some (zcz ((d.marks.drop (i+1)).foldl (zdF d R) (mput ⟨d.marks[i].event.Script,d.marks[i].event.Part⟩ d.marks[i].event m))):=by
     rw [show (AV.agg (zcD.enc ⟨d.marks[i].event.Script,d.marks[i].event.Part⟩))=.agg (zbb ⟨d.marks[i].event.Script,d.marks[i].event.Part⟩) from rfl,zkW]; exact ih (i+1) _ (by omega)
    unfold zdF
    cases hv:d.marks[i].void with
    | true=>rw [zaM,if_pos rfl]; exact ih (i+1) m (by omega)
    | false =>
      rw [zaB,iNs,zaR]; by_cases hlv:d.level < 2
      · rw [if_pos hlv,zyO,zam]
        cases hr:reopB R d.marks[i].event with
        | true=>rw [zaM,if_pos ⟨hlv,rfl⟩]; exact ih (i+1) m (by omega)
        | false=>rw [zaB,iNs]; exact put
      · rw [if_neg hlv,if_neg (fun h=>hlv h.1)]; exact put
 exact key d.marks.length 0 [] (by omega)
theorem zw1 (a b:zbp):∃ v:Int,cw zed [.agg (za1 a),.agg (za1 b)] []=some (zbe v)∧decide (v < 0)=zbE a b:=by
 refine ⟨ziJ [cmpI a.Script b.Script,cmpI a.Part b.Part,cmpI a.Marker b.Marker],zpL a b ?_,?_⟩
 · rw [c_cmp,zaX,c_cmp,zaX,c_cmp,zaX,c_Or _ (by simp),zaX]; rfl
 · unfold cmpI zbE; simp only [ziJ]
   repeat' split
   all_goals first | omega | (simp_all; done) | (simp_all; omega) | (simp; omega)
theorem zny {a b:zbp} (h:zbE a b=true):zbE b a=false:=by
 unfold zbE at h ⊢
 grind
theorem zkd {a b c:zbp} (h1:zbE b a=false) (h2:zbE c b=false):zbE c a=false:=by
 unfold zbE at h1 h2 ⊢
 grind
theorem zrv {a b:zbp} (h1:zbE a b=false) (h2:zbE b a=false):a.Script=b.Script∧a.Part=b.Part∧a.Marker=b.Marker:=by
 unfold zbE at h1 h2
 grind
theorem swoG:Go.Sort.SWO zbE where
 irrefl:=fun x=>by unfold zbE; simp
 trans:=fun x y z h1 h2=>by unfold zbE at h1 h2 ⊢; grind
 ntrans:=fun x y z h1 h2=>zkd h2 h1
theorem cmpG:SX.Cmp (S:=sgG) zbE (fun _=>True) where
 ans:=fun x y _ _=>zw1 x y
theorem okRun {s:zaA} (hs:zdL s) {l:List zab} (h:FewEv l):OkRun s (canonS l):=
 ⟨hs,fun e he=>(keep_mem ((zeg l).mem_iff.1 he)).1,by have:=(zeg l).length_eq; have:=h.2.1; omega⟩
theorem desk_ok {s:zaA} (hs:zdL s):∀ (ev:List zab) {i:Nat} {d:zah},(walkS s ev).1 i=some d→DeskOk s.Monitor ev.length d:=by
 have key:∀ (ev:List zab) (k:Nat) (st:Desks×Reop),(∀ i d,st.1 i=some d→DeskOk s.Monitor k d)→∀ i d,(ev.foldl (evS s) st).1 i=some d→DeskOk s.Monitor (k+ev.length) d:=by
  intro ev
  induction ev with
  | nil=>intro k st h; exact h
  | cons e r ih =>
    intro k st h i d hd; have:=ih (k+1) (evS s st e) ?_ i d hd
    · rw [zf0,show k+(r.length+1)=k+1+r.length by omega]; exact this
    · intro j f hj; have up:∀ x,(∀ g,st.1 x=some g→DeskOk s.Monitor (k+1) g):=fun x g hg=>(h x g hg).up
      unfold evS at hj; split at hj
      · split at hj
        · rename_i d0 hd0; unfold upd at hj; simp only at hj; split at hj
          · injection hj with hj; rw [← hj]; exact (h _ _ hd0).rein hs.monitor _
          · exact up _ _ hj
        · exact up _ _ hj
      · split at hj
        · exact up _ _ hj
        · split at hj
          · split at hj
            · rename_i d0 q hd0 _; split at hj
              · unfold upd at hj; simp only at hj; split at hj
                · injection hj with hj; rw [← hj]; exact (h _ _ hd0).note rfl _ _ _
                · exact up _ _ hj
              · unfold upd at hj; simp only at hj; split at hj
                · injection hj with hj; rw [← hj]; exact (h _ _ hd0).app _
                · exact up _ _ hj
              · exact up _ _ hj
            · exact up _ _ hj
          · exact up _ _ hj
 intro ev i d hd
 have:=key ev 0 (seats s.Markers,[]) (fun i d h=>by
  obtain ⟨m,_,_,rfl⟩:=zxR _ _ _ h
  exact DeskOk.zero hs.monitor _) i d hd
 simpa using this
theorem zwP {s:zaA} (hs:zdL s) (ev:List zab):∀ n,(suspTo (walkS s ev).1 n).length≤n*ev.length:=by
 intro n
 induction n with
 | zero=>simp [suspTo]
 | succ n ih =>
   rw [zkX,zfy,zoa]
   cases hd:(walkS s ev).1 n with
   | none=>simp; omega
   | some d=>have:=(desk_ok hs ev hd).susp; simp; omega
theorem foLegs (b:Bool) {s:zaA} (hs:zdL s) {l:List zab} (h:FewEv l):FoLegs b s l (walkS s (canonS l)).1 (walkS s (canonS l)).2 where
 cCheck:=zpg hs
 cCanon:=c_canon b h
 cWalk:=c_walk (okRun hs h)
 cCount:=fun i d hd=>zv6 d _ (by
  have h1:=(desk_ok hs _ hd).marks; have h2:=(okRun hs h).2.2
  omega)
 cSort:=fun gs hp=>by
  have h1:=zpT s (canonS l) (walkS s (canonS l)).2 100; have h2:=(zeg l).length_eq; have h3:=h.2.1; have h4:=hp.length_eq; have hgl:gs.length < 256:=by omega
  obtain ⟨l',e1,e2,e3⟩:=SX.c_SortFunc (S:=sgG) cmpG swoG gs (fun _ _=>trivial) hgl
  have:l'=isort zbE (zbQ (walkS s (canonS l)).1 (walkS s (canonS l)).2 100):=
   zgu (lt:=zbE) ((e2.trans hp).trans (zdx _).symm) e3 (zjJ (lt:=zbE) (fun _ _ _ h1 h2=>zkd h1 h2) (fun _ _ h=>zny h) _) (fun a ha b hb h1 h2=>by
    have q:=zrv h1 h2
    exact zs9 ((e2.trans hp).mem_iff.1 ha) ((e2.trans hp).mem_iff.1 hb) q.1 q.2.1 q.2.2)
  rw [this] at e1; exact e1
 few:=by have h1:=zpT s (canonS l) (walkS s (canonS l)).2 100; have h2:=(zeg l).length_eq; have h3:=h.2.1; omega
 fewS:=by have h1:=zwP hs (canonS l) 100; have h2:=(zeg l).length_eq; have h3:=h.2.1; omega
theorem fold_eq (s:zaA) (l:List zab):foldS s l=⟨isort zbE (zbQ (walkS s (canonS l)).1 (walkS s (canonS l)).2 100),suspTo (walkS s (canonS l)).1 100⟩:=rfl
theorem fold_ok:CallOK zP (single zca zOrc):=by
 intro f args ms r ms' h; unfold single at h; split at h
 case isFalse=>cases h
 rename_i hf; subst hf
 cases ms with
 | nil =>
   have hz:zOrc zca args []=oFoldD args:=by unfold zOrc; simp (decide:=true) only [if_false,if_true]
   rw [hz] at h; clear hz; unfold oFoldD at h; split at h
   case isFalse=>cases h
   rename_i hex; have hsp:=hex.choose_spec.choose_spec; generalize hex.choose_spec.choose=l at h hsp; generalize hex.choose=s at h hsp; obtain ⟨rfl,hs,hl⟩:=hsp; injection h with h; injection h with h1 h2; subst h1 h2; refine ⟨zxt,fun w S κ vals hvl hS hv hms hinj=>?_⟩; exact fo_calls (foLegs false hs hl) (zdx _).length_eq w S κ vals hvl hS hv hms hinj
 | cons a m =>
   have hz:zOrc zca args (a :: m)=oFold args (a :: m):=by unfold zOrc; simp (decide:=true) only [if_false,if_true]
   rw [hz] at h; clear hz; unfold oFold at h; split at h
   case isFalse=>cases h
   rename_i hex; have hsp:=hex.choose_spec.choose_spec; generalize hex.choose_spec.choose=l at h hsp; generalize hex.choose=s at h hsp; obtain ⟨⟨ha,hm⟩,hs,hl⟩:=hsp; subst ha; rw [hm] at h ⊢; injection h with h; injection h with h1 h2; subst h1 h2; refine ⟨zxt,fun w S κ vals hvl hS hv hms hinj=>?_⟩; exact fo_calls (foLegs true hs hl) (zdx _).length_eq w S κ vals hvl hS hv hms hinj
theorem c_fold {s:zaA} (hs:zdL s) {l:List zab} (h:FewEv l):cw zca [.agg (zau s),.row 1001 9 0 (List.map zaa l).length] [(1001,⟨9,zac,List.map zaa l,false⟩)]=some (zmR ((foldS s l,0),l)):=by
 refine zok fold_ok ?_; show zOrc zca [.agg (zau s),(lentEv 1001 l).1] (lentEv 1001 l).2=_
 have hz:zOrc zca [.agg (zau s),(lentEv 1001 l).1] (lentEv 1001 l).2=oFold [.agg (zau s),(lentEv 1001 l).1] (lentEv 1001 l).2:=by unfold zOrc; simp (decide:=true) only [if_false,if_true]; rfl
 rw [hz]; unfold oFold; have hex:∃ s' l',([.agg (zau s),(lentEv 1001 l).1]=[.agg (zau s'),(lentEv 1001 l').1]∧(lentEv 1001 l).2=(lentEv 1001 l').2)∧zdL s'∧FewEv l':=⟨s,l,⟨rfl,rfl⟩,hs,h⟩
 rw [dif_pos hex]; have hsp:=hex.choose_spec.choose_spec; generalize hex.choose_spec.choose=l' at hsp; generalize hex.choose=s' at hsp; obtain ⟨⟨h1,h2⟩,_⟩:=hsp
 have e2:l=l':=by unfold lentEv at h2; simp only [zbl,zaF,Ent.mk.injEq,true_and,and_true] at h2; exact ev_inj h2
 simp only [zbl,AV.agg.injEq] at h1; have e1:s=s':=zhu.inj h1.1; subst e1 e2; rfl
end Go.Proofs.YtikogkgdkdmljaaGreat
end
