/- The two sorts: of events and of marks that count. -/
import Derived.Test.YtikogkgdkdmljaaGreatJ3
import Derived.Test.YtikogkgdkdmljaaGreatK5
import Derived.Test.YtikogkgdkdmljaaGreatJ2
import Derived.Test.YtikogkgdkdmljaaGreatXAnn
import Derived.Test.YtikogkgdkdmljaaGreatAb10
import Derived.Control
set_option linter.unusedSimpArgs false
set_option linter.unusedVariables false
noncomputable section
namespace Go.Proofs.YtikogkgdkdmljaaGreat
open Go.Ab
def sgG:SX.Sg:={ D:=zca,z:=8,ty:=zaP,fc:=zep,inh:=⟨0,0,0,0,0,⟨0,0,0⟩⟩,so:=zjK,pi:=zgF,is:=ziP,pd:=zlk,hs:=zk4,bp:=ziO,cp:=zjL,rr:=zji,pe:=zib,pa:=zkx,sd:=zk5,ma:=zia,md:=zlH,o2:=zlI }
instance:Nonempty (SX.Lw sgG):=⟨⟨fun _ _ h=>SX.cwQ sgG.so [] h,fun _ _ _ _ _ _ _ _ h=>SX.ptQ [20,17,15,10] h,fun _ _ _ _ _ _ _ _ h=>SX.ptQ [20,17,15,10] h,fun _ _ _ _ _ _ _ _ h=>SX.ptQ [20,17,15,10] h,fun _ _ _ _ _ _ _ _ _ h=>SX.ptQ [20,17,15,10] h,fun _ _ _ _ _ _ _ _ _ _ h=>SX.ptQ [20,17,15,10] h,fun _ _ _ _ _ _ _ _ _ h=>SX.ptQ [20,17,15,10] h,fun _ _ _ _ _ _ _ _ _ h=>SX.ptQ [20,17,15,10] h,fun _ _ _ _ _ _ _ _ _ h=>SX.ptQ [20,17,15,10] h,fun _ _ _ _ _ h=>SX.cwQ sgG.pd [20,17,15,10] h,fun _ _ _ _ _ _ h=>SX.ptQ [] h,fun _ _ _ _ _ _ _ h=>SX.ptQ [] h,fun _ _ _ _ h=>SX.cwQ sgG.is [] h,fun _ _ _ _ _ _ h=>SX.ptQ [] h,fun _ _ _ _ _ h=>SX.ptQ [] h,fun _ _ _ _ h=>SX.cwQ sgG.hs [] h,fun _ _ _ _ _ _ _ _ h=>SX.ptQ [10] h,fun _ _ _ _ _ _ _ _ h=>SX.ptQ [10] h,fun _ _ _ _ _ _ _ _ h=>SX.ptQ [10] h,fun _ _ _ _ h=>SX.cwQ sgG.bp [10] h,fun _ _ _ _ _ h=>SX.ptQ [11] h,fun _ _ _ _ h=>SX.ptQ [11] h,fun _ _ _ _ h=>SX.cwQ sgG.cp [11] h,fun _ _ _ _ _ h=>SX.ptQ [] h,fun _ _ _ _ h=>SX.cwQ sgG.rr [] h,fun _ _ _ _ _ _ _ h=>SX.ptQ [7] h,fun _ _ _ _ _ _ _ h=>SX.ptQ [7] h,fun _ _ _ _ _ _ _ h=>SX.ptQ [7] h,fun _ _ _ _ _ _ _ h=>SX.ptQ [7] h,fun _ _ _ _ _ _ _ _ h=>SX.ptQ [7] h,fun _ _ _ _ _ _ _ _ h=>SX.ptQ [7] h,fun _ _ _ _ h=>SX.cwQ sgG.pi [7] h,fun _ _ _ _ _ _ h=>SX.ptQ [7] h,fun _ _ _ _ _ _ h=>SX.ptQ [7] h,fun _ _ _ _ _ _ h=>SX.ptQ [7] h,fun _ _ _ _ _ _ h=>SX.ptQ [7] h,fun _ _ _ _ _ _ h=>SX.ptQ [7] h,fun _ _ _ _ _ h=>SX.cwQ sgG.pe [7] h,fun _ _ _ _ _ _ _ _ _ _ h=>SX.ptQ [17,7] h,fun _ _ _ _ _ _ _ _ _ _ h=>SX.ptQ [17,7] h,fun _ _ _ _ _ _ _ _ _ _ _ h=>SX.ptQ [17,7] h,fun _ _ _ _ _ _ _ _ _ _ _ h=>SX.ptQ [17,7] h,fun _ _ _ _ _ _ h=>SX.ptQ [17,7] h,fun _ _ _ _ _ _ h=>SX.ptQ [17,7] h,fun _ _ _ _ _ _ h=>SX.ptQ [17,7] h,fun _ _ _ _ _ _ h=>SX.ptQ [17,7] h,fun _ _ _ _ _ _ h=>SX.ptQ [17,7] h,fun _ _ _ _ _ h=>SX.cwQ sgG.pa [17,7] h,fun _ _ _ _ _ _ h=>SX.ptQ [5] h,fun _ _ _ _ _ _ h=>SX.ptQ [5] h,fun _ _ _ _ _ _ h=>SX.ptQ [5] h,fun _ _ _ _ _ h=>SX.cwQ sgG.sd [5] h,fun _ _ _ _ h=>SX.cwQ sgG.ma [] h,fun _ _ _ _ _ _ h=>SX.cwQ sgG.md [] h,fun _ _ _ _ _ h=>SX.cwQ sgG.o2 [] h⟩⟩
def sgE:SX.Sg:={ D:=zaw,z:=9,ty:=zac,fc:=zeD,inh:=⟨⟨0,0,0⟩,0,0,0,0,0,[]⟩,so:=zgP,pi:=zf2,is:=zhz,pd:=zjM,hs:=zjh,bp:=zhy,cp:=zhY,rr:=zhL,pe:=zhi,pa:=ziQ,sd:=zjj,ma:=zhh,md:=zjQ,o2:=zjR }
instance:Nonempty (SX.Lw sgE):=⟨⟨fun _ _ h=>SX.cwQ sgE.so [] h,fun _ _ _ _ _ _ _ _ h=>SX.ptQ [20,17,15,10] h,fun _ _ _ _ _ _ _ _ h=>SX.ptQ [20,17,15,10] h,fun _ _ _ _ _ _ _ _ h=>SX.ptQ [20,17,15,10] h,fun _ _ _ _ _ _ _ _ _ h=>SX.ptQ [20,17,15,10] h,fun _ _ _ _ _ _ _ _ _ _ h=>SX.ptQ [20,17,15,10] h,fun _ _ _ _ _ _ _ _ _ h=>SX.ptQ [20,17,15,10] h,fun _ _ _ _ _ _ _ _ _ h=>SX.ptQ [20,17,15,10] h,fun _ _ _ _ _ _ _ _ _ h=>SX.ptQ [20,17,15,10] h,fun _ _ _ _ _ h=>SX.cwQ sgE.pd [20,17,15,10] h,fun _ _ _ _ _ _ h=>SX.ptQ [] h,fun _ _ _ _ _ _ _ h=>SX.ptQ [] h,fun _ _ _ _ h=>SX.cwQ sgE.is [] h,fun _ _ _ _ _ _ h=>SX.ptQ [] h,fun _ _ _ _ _ h=>SX.ptQ [] h,fun _ _ _ _ h=>SX.cwQ sgE.hs [] h,fun _ _ _ _ _ _ _ _ h=>SX.ptQ [10] h,fun _ _ _ _ _ _ _ _ h=>SX.ptQ [10] h,fun _ _ _ _ _ _ _ _ h=>SX.ptQ [10] h,fun _ _ _ _ h=>SX.cwQ sgE.bp [10] h,fun _ _ _ _ _ h=>SX.ptQ [11] h,fun _ _ _ _ h=>SX.ptQ [11] h,fun _ _ _ _ h=>SX.cwQ sgE.cp [11] h,fun _ _ _ _ _ h=>SX.ptQ [] h,fun _ _ _ _ h=>SX.cwQ sgE.rr [] h,fun _ _ _ _ _ _ _ h=>SX.ptQ [7] h,fun _ _ _ _ _ _ _ h=>SX.ptQ [7] h,fun _ _ _ _ _ _ _ h=>SX.ptQ [7] h,fun _ _ _ _ _ _ _ h=>SX.ptQ [7] h,fun _ _ _ _ _ _ _ _ h=>SX.ptQ [7] h,fun _ _ _ _ _ _ _ _ h=>SX.ptQ [7] h,fun _ _ _ _ h=>SX.cwQ sgE.pi [7] h,fun _ _ _ _ _ _ h=>SX.ptQ [7] h,fun _ _ _ _ _ _ h=>SX.ptQ [7] h,fun _ _ _ _ _ _ h=>SX.ptQ [7] h,fun _ _ _ _ _ _ h=>SX.ptQ [7] h,fun _ _ _ _ _ _ h=>SX.ptQ [7] h,fun _ _ _ _ _ h=>SX.cwQ sgE.pe [7] h,fun _ _ _ _ _ _ _ _ _ _ h=>SX.ptQ [17,7] h,fun _ _ _ _ _ _ _ _ _ _ h=>SX.ptQ [17,7] h,fun _ _ _ _ _ _ _ _ _ _ _ h=>SX.ptQ [17,7] h,fun _ _ _ _ _ _ _ _ _ _ _ h=>SX.ptQ [17,7] h,fun _ _ _ _ _ _ h=>SX.ptQ [17,7] h,fun _ _ _ _ _ _ h=>SX.ptQ [17,7] h,fun _ _ _ _ _ _ h=>SX.ptQ [17,7] h,fun _ _ _ _ _ _ h=>SX.ptQ [17,7] h,fun _ _ _ _ _ _ h=>SX.ptQ [17,7] h,fun _ _ _ _ _ h=>SX.cwQ sgE.pa [17,7] h,fun _ _ _ _ _ _ h=>SX.ptQ [5] h,fun _ _ _ _ _ _ h=>SX.ptQ [5] h,fun _ _ _ _ _ _ h=>SX.ptQ [5] h,fun _ _ _ _ _ h=>SX.cwQ sgE.sd [5] h,fun _ _ _ _ h=>SX.cwQ sgE.ma [] h,fun _ _ _ _ _ _ h=>SX.cwQ sgE.md [] h,fun _ _ _ _ _ h=>SX.cwQ sgE.o2 [] h⟩⟩
set_option maxRecDepth 10000
section
variable {α:Type} {lt:α→α→Bool}
theorem zwN (x:α):∀ l:List α,List.Perm (ins lt x l) (x :: l)
 | []=>znj _
 | y :: r=>by
   unfold ins; split
   · exact znj _
   · exact ((zwN x r).cons y).trans (List.Perm.swap x y r)
theorem zfA:∀ l:List α,List.Perm (isort lt l) l
 | []=>znj _
 | x :: r=>(zwN x (isort lt r)).trans ((zfA r).cons x)
theorem zxR (ht:∀ a b c,lt b a=false→lt c b=false→lt c a=false) (ha:∀ a b,lt a b=true→lt b a=false) (x:α):∀ l:List α,l.Pairwise (fun a b=>lt b a=false)→(ins lt x l).Pairwise (fun a b=>lt b a=false)
 | [],_=>by simp [ins]
 | y :: r,h=>by
   unfold ins; split
   · rename_i hxy; refine zjY.2 ⟨fun z hz=>?_,h⟩; rcases za7.1 hz with rfl | hz
     · exact ha _ _ hxy
     · exact ht _ _ _ (ha _ _ hxy) ((zjY.1 h).1 z hz)
   · rename_i hxy; obtain ⟨h1,h2⟩:=zjY.1 h; refine zjY.2 ⟨fun z hz=>?_,zxR ht ha x r h2⟩; rcases za7.1 ((zwN x r).mem_iff.1 hz) with rfl | hz
     · simpa using hxy
     · exact h1 z hz
theorem zmO (ht:∀ a b c,lt b a=false→lt c b=false→lt c a=false) (ha:∀ a b,lt a b=true→lt b a=false):∀ l:List α,(isort lt l).Pairwise (fun a b=>lt b a=false)
 | []=>List.Pairwise.nil
 | x :: r=>zxR ht ha x _ (zmO ht ha r)
theorem zlE:∀ {l1 l2:List α},List.Perm l1 l2→l1.Pairwise (fun a b=>lt b a=false)→l2.Pairwise (fun a b=>lt b a=false)→(∀ a∈l1,∀ b∈l1,lt a b=false→lt b a=false→a=b)→l1=l2
 | [],l2,hp,_,_,_=>(List.nil_perm.1 hp).symm
 | x :: r,l2,hp,h1,h2,ha=>by
   cases l2 with
   | nil=>exact absurd hp.length_eq (by simp)
   | cons y s =>
     obtain ⟨h3,h4⟩:=zjY.1 h1; obtain ⟨h5,h6⟩:=zjY.1 h2
     have hxy:x=y:=by
      have m1:y∈x :: r:=hp.mem_iff.2 (by simp); have m2:x∈y :: s:=hp.mem_iff.1 (by simp); rcases za7.1 m1 with e | m1
      · exact e.symm
      rcases za7.1 m2 with e | m2
      · exact e
      exact ha x (by simp) y (by simp [m1]) (h5 x m2) (h3 y m1)
     subst hxy; rw [zlE ((List.perm_cons x).1 hp) h4 h6 (fun a ha' b hb=>ha a (by simp [ha']) b (by simp [hb]))]
end
theorem znY {a b:zaM} (h:lessS a b=true):lessS b a=false:=by
 rcases zq5 a b with q | q
 · rw [h] at q; cases q
 · exact q
theorem lessS_eq {a b:zaM} (h1:lessS a b=false) (h2:lessS b a=false):a=b:=by
 unfold lessS at h1 h2; obtain ⟨t,s,q⟩:=a; obtain ⟨t',s',q'⟩:=b; simp only at h1 h2
 have:t=t':=by
  by_cases h:t=t'
  · exact h
  · simp [h,Ne.symm h] at h1 h2; omega
 subst this
 have:s=s':=by
  by_cases h:s=s'
  · exact h
  · simp [h,Ne.symm h] at h1 h2; omega
 subst this; simp at h1 h2; have:q=q':=by omega
 rw [this]
theorem zAl (s:zaM):cw zoB [.agg (zbD s)] []=some (zai (stampB s)):=by
 refine zzD s ?_; unfold stampB; simp only [zeC,decide_eq_true_eq]
 repeat' split
 all_goals first
  | (rw [decide_eq_false (by omega)]; rfl)
  | (rw [show decide ((0≤s.Time∧s.Time≤1000000)∧(0≤s.Source∧s.Source≤99)∧(0≤s.Seq∧s.Seq≤9999))=decide (s.Seq≤9999) from decide_eq_decide.2 (by omega)]; rfl)
theorem ztl (n:Int):cw zcd [I n] []=some (zai (!decide (0≤n∧n≤1152921504606846976))):=by
 refine zrK n ?_; rw [zaY]; split
 · rw [show decide (0≤n∧n≤1152921504606846976)=false from decide_eq_false (by omega)]; rfl
 · rw [show (!decide (0≤n∧n≤1152921504606846976))=decide (1152921504606846976 < n) by rw [← decide_not]; exact decide_eq_decide.2 (by omega)]
   rfl
theorem c_idx_v (l:List Int) (hl:l.length≤1000000):cw zb0 [.sl 1 (List.map zaj l),.fn zcd []] []=some (zbh (match fnd (fun n=>!decide (0≤n∧n≤1152921504606846976)) 0 l with | some (i,_)=>(i:Int) | none=>-1)):=by
 refine znB l ?_; refine zir l (fun n=>!decide (0≤n∧n≤1152921504606846976)) (fun i=>zdL l i) (fun o=>zbh (match o with | some (i,_)=>(i:Int) | none=>-1)) ?_ ?_ ?_
 · exact ze2 _ _ (by simp (disch:=omega) only [zam,zaO]; rfl)
 · intro i hi h; refine ze2 _ _ ?_; simp (disch:=omega) only [zam,zaD,zan,za2,zcy,zaB hi,zaX,ztl,zao]; rw [h,zaF]; rfl
 · intro i hi y h hk; refine ze2 _ _ ?_; simp (disch:=omega) only [zam,zaD,zan,za2,zcy,zaB hi,zaX,ztl,zao]; rw [h,zat,w6Q]; exact hk
theorem zAe (l:List Int) (hl:l.length≤1000000):cw zbP [.sl 1 (List.map zaj l),.fn zcd []] []=some (zai (l.any fun n=>!decide (0≤n∧n≤1152921504606846976))):=by
 refine zmu l ?_; rw [c_idx_v l hl,za4,← fnd_any]
 cases fnd (fun n=>!decide (0≤n∧n≤1152921504606846976)) 0 l with
 | none=>rfl
 | some q=>simp; rfl
theorem zAW {α:Type} (p:α→Bool) (l:List α):(!l.any fun n=>!p n)=l.all p:=by
 induction l with
 | nil=>rfl
 | cons x r ih=>simp only [List.any_cons,List.all_cons,Bool.not_or,Bool.not_not,ih]
theorem zA6 (e:zab) (hp:e.Pages.length≤1000000):cw zjo [.agg (zaa e)] []=some (zai (decide (1≤e.Stamp.Source∧(0≤e.Part∧e.Part≤23)∧(-1≤e.Value∧e.Value≤40)∧e.Marker=0) && decide (e.Pages.length≤12) && e.Pages.all (fun n=>decide (0≤n∧n≤1152921504606846976)))):=by
 refine ztH e ?_; rw [zAe _ hp,zao,zAW,zam]; simp only [zeC,decide_eq_true_eq,bne_iff_ne,ne_eq]; by_cases hl:12 < e.Pages.length
 · rw [if_pos (show (12:Int) < (e.Pages.length:Int) by omega),show decide (e.Pages.length≤12)=false from decide_eq_false (by omega),zpD,zid]
   repeat' split
   all_goals rfl
 · rw [if_neg (show ¬ (12:Int) < (e.Pages.length:Int) by omega),show decide (e.Pages.length≤12)=true from decide_eq_true (by omega),zni]
   repeat' split
   all_goals first
    | (rw [decide_eq_false (by omega),zid]; rfl)
    | (rw [decide_eq_true (by omega),zjS]; rfl)
theorem c_Valid (e:zab) (hp:e.Pages.length≤1000000):cw zjw [.agg (zaa e)] []=some (zai (eventB e)):=by
 refine zxD e ?_; rw [zAl,zao,zA6 e hp,zao,zam]; unfold eventB
 cases hs:stampB e.Stamp with
 | false=>simp only [zcc,zaF,zid]; rfl
 | true =>
 simp only [zbH,zat,zjS,zeC,decide_eq_true_eq,beq_iff_eq,zck,if_false]; by_cases h1:0≤e.Script∧e.Script≤319999
 case neg =>
  rw [decide_eq_false h1,zid,zid,zid]; by_cases h2:e.Script < 0
  · rw [if_pos h2]; rfl
  · rw [if_neg h2,if_pos (show 319999 < e.Script by omega)]; rfl
 rw [if_neg (show ¬ e.Script < 0 by omega),if_neg (show ¬ 319999 < e.Script by omega),decide_eq_true h1,zjS]; by_cases k0:e.Kind=0
 · rw [if_pos k0]; have:decide ((e.Kind=0∧1≤e.Stamp.Source∧(0≤e.Part∧e.Part≤23)∧(-1≤e.Value∧e.Value≤40)∧e.Marker=0)∨(e.Kind=1∧e.Stamp.Source=0∧e.Script=0∧e.Part=0∧e.Value=0∧(1≤e.Marker∧e.Marker≤99)∧e.Pages.length=0)∨(e.Kind=2∧e.Stamp.Source=0∧e.Value=0∧e.Marker=0∧(-1≤e.Part∧e.Part≤23)∧e.Pages.length=0))=decide (1≤e.Stamp.Source∧(0≤e.Part∧e.Part≤23)∧(-1≤e.Value∧e.Value≤40)∧e.Marker=0):=decide_eq_decide.2 (by omega); rw [this]; generalize decide (1≤e.Stamp.Source∧(0≤e.Part∧e.Part≤23)∧(-1≤e.Value∧e.Value≤40)∧e.Marker=0)=x; generalize decide (e.Pages.length≤12)=y; generalize (e.Pages.all fun n=>decide (0≤n∧n≤1152921504606846976))=z; cases x <;> cases y <;> cases z <;> rfl
 rw [if_neg k0]; by_cases hl:e.Pages.length=0
 · have hnil:e.Pages=[]:=zro hl; rw [hnil]; simp only [zpy,List.all_nil,zni,and_true]; rw [show decide ((0:Nat)≤12)=true from rfl,zjS]
   repeat' split
   all_goals first
    | (rw [decide_eq_false (by omega)]; rfl)
    | (rw [decide_eq_true (by omega)]; rfl)
 · have:decide ((e.Kind=0∧1≤e.Stamp.Source∧(0≤e.Part∧e.Part≤23)∧(-1≤e.Value∧e.Value≤40)∧e.Marker=0) ∨
    (e.Kind=1∧e.Stamp.Source=0∧e.Script=0∧e.Part=0∧e.Value=0∧(1≤e.Marker∧e.Marker≤99)∧e.Pages.length=0)∨(e.Kind=2∧e.Stamp.Source=0∧e.Value=0∧e.Marker=0∧(-1≤e.Part∧e.Part≤23)∧e.Pages.length=0))=false:=decide_eq_false (by omega)
   rw [this,zpD,show ((e.Pages.length:Int) == 0)=false by simp; intro h; rw [h] at hl; exact hl rfl]
   repeat' split
   all_goals rfl
theorem c_Same (a b:zab) (hl:a.Pages.length≤1000000):cw zkG [.agg (zaa a),.agg (zaa b)] []=some (zai (decide (a=b))):=by
 refine zyq a b ?_; rw [c_Equal _ _ hl,zao,zxx]; obtain ⟨⟨t,s,q⟩,k,sc,pa,v,m,pg⟩:=a; obtain ⟨⟨t',s',q'⟩,k',sc',pa',v',m',pg'⟩:=b; simp only [zeC,zbX,beq_iff_eq,and_true,zab.mk.injEq,zaM.mk.injEq]
 repeat' split
 all_goals first
  | (rw [decide_eq_false (by simp_all)]; rfl)
  | (rename_i h1 h2 h3 h4 h5 h6
     rw [show decide ((t=t'∧s=s'∧q=q')∧k=k'∧sc=sc'∧pa=pa'∧v=v'∧m=m'∧pg=pg')=decide (pg=pg') from decide_eq_decide.2 (by simp_all)]
     rfl)
theorem c_clone (e:zab) (hl:e.Pages.length≤1000000):cw zgV [.agg (zaa e)] []=some (zkL e):=by refine zxE e ?_; rw [c_CloneI ci_ok _ hl,ziS,cPQ,zcs (by omega)]; rfl
theorem zzu (a b:zab):cw zeD [.agg (zaa a),.agg (zaa b)] []=some (zbh (cmpS a.Stamp b.Stamp)):=by refine zrJ a b ?_; rw [zrA,za4]; rfl
theorem zmM {l:List zab} {m:zcO} {i:Nat} {e:zab} (hm:∀ p∈m,0≤p.2.first∧p.2.first < (i:Int)):∀ p∈zdC l m i e,0≤p.2.first∧p.2.first < ((i+1:Nat):Int):=by
 intro p hp; have up:p∈m→0≤p.2.first∧p.2.first < ((i+1:Nat):Int):=fun h=>by have:=hm p h; omega
 unfold zdC at hp; split at hp
 · split at hp
   · rcases zlV hp with rfl | h
     · simp; omega
     · exact up h
   · rename_i g hg; have:=hm _ (zh5 hg); rcases zlV hp with rfl | h
     · simp at this ⊢; omega
     · exact up h
 · exact up hp
theorem zBh (l:List zab) (hl:l.length≤1000000) (hp:∀ e∈l,e.Pages.length≤1000000):∀ (n i:Nat) (m:zcO),i+n=l.length→(∀ p∈m,0≤p.2.first∧p.2.first < (i:Int))→zdb l (List.map zbz m) i=some (zdU (zcI l (l.drop i) i m,l)):=by
 intro n
 induction n with
 | zero=>intro i m hi hm; refine zou _ _ _ ?_; rw [zam,zaO (by omega),zgi (by omega)]; rfl
 | succ n ih =>
   intro i m hi hm; have hlt:i < l.length:=by omega
   have hpe:=hp _ (zbi hlt)
   have IH:∀ m':zcO,zdC l m i l[i]=m'→zdb l (List.map zbz m') ((i+1:Nat):Int)=some (zdU (zcI l (l.drop i) i m,l)):=by intro m' hm'; rw [zc3 hlt]; unfold zcI; rw [hm']; refine ih (i+1) m' (by omega) ?_; rw [← hm']; exact zmM hm
   refine zou _ _ _ ?_; rw [zaD (by simp; omega),cPQ,zan (by simp; omega),zbO,za2,zbJ,zaB hlt,zaX,c_Valid _ hpe,zao,w6Q,show ((i:Int)+1)=((i+1:Nat):Int) by omega]; unfold zdC at IH
   cases hv:eventB l[i] with
   | false=>rw [zcc,zaF]; exact IH m (by rw [hv]; rfl)
   | true =>
     rw [zbH,zat,zoh l[i] (y:=zg8 (l[i].Stamp.Source,l[i].Stamp.Seq)) rfl,zln]; rw [show (AV.agg (zee.enc (l[i].Stamp.Source,l[i].Stamp.Seq)))=.agg (zbK (l[i].Stamp.Source,l[i].Stamp.Seq)) from rfl,zjD]; rw [hv] at IH; simp only [if_true] at IH
     cases hf:mfind (l[i].Stamp.Source,l[i].Stamp.Seq) m with
     | none=>rw [hf] at IH; simp only [znk,zcc,zaF,Option.getD_none]; rw [zcY]; exact IH _ rfl
     | some g =>
       rw [hf] at IH; have hg:=hm _ (zh5 hf); simp only at hg; have hgl:g.first.toNat < l.length:=by omega
       simp only [zie,zbH,zat,zfi]; rw [zan hg.1,zan (by simp; omega),zbO,zbJ,zaB hgl,zaX,c_Same _ _ (hp _ (zbi hgl)),zao]; by_cases he:l[g.first.toNat]=l[i]
       · rw [decide_eq_true he,zbH,zat,zcY]; exact IH _ (by simp only [zaB hgl,he,if_true])
       · rw [decide_eq_false he,zcc,zaF,zcY]; exact IH _ (by simp only [zaB hgl,zax,he,if_false])
theorem c_groups (l:List zab) (hl:l.length≤1000000) (hp:∀ e∈l,e.Pages.length≤1000000):cw zcU [.row 1000 9 0 (List.map zaa l).length] [(1000,⟨9,zac,List.map zaa l,false⟩)]=some (zdU (zbM l,l)):=by refine zwI l ?_; have:=zBh l hl hp l.length 0 [] (by omega) (by simp); rw [znr] at this; exact this
theorem zzH (l:List zab) (hl:l.length≤1000000) (hp:∀ e∈l,e.Pages.length≤1000000):∀ (n i:Nat) (m:zcO),i+n=l.length→(∀ p∈m,0≤p.2.first∧p.2.first < (i:Int))→zcR l (List.map zbz m) i=some (zdd (zcI l (l.drop i) i m)):=by
 intro n
 induction n with
 | zero=>intro i m hi hm; refine zm3 _ _ _ ?_; rw [zam,zaO (by omega),zgi (by omega)]; rfl
 | succ n ih =>
   intro i m hi hm; have hlt:i < l.length:=by omega
   have hpe:=hp _ (zbi hlt)
   have IH:∀ m':zcO,zdC l m i l[i]=m'→zcR l (List.map zbz m') ((i+1:Nat):Int)=some (zdd (zcI l (l.drop i) i m)):=by intro m' hm'; rw [zc3 hlt]; unfold zcI; rw [hm']; refine ih (i+1) m' (by omega) ?_; rw [← hm']; exact zmM hm
   refine zm3 _ _ _ ?_; rw [zaD (by simp; omega),cPQ,za2,zbJ,zaB hlt,zaX,c_Valid _ hpe,zao,w6Q,show ((i:Int)+1)=((i+1:Nat):Int) by omega]; unfold zdC at IH
   cases hv:eventB l[i] with
   | false=>rw [zcc,zaF]; exact IH m (by rw [hv]; rfl)
   | true =>
     rw [zbH,zat,zoh l[i] (y:=zg8 (l[i].Stamp.Source,l[i].Stamp.Seq)) rfl,zln]; rw [show (AV.agg (zee.enc (l[i].Stamp.Source,l[i].Stamp.Seq)))=.agg (zbK (l[i].Stamp.Source,l[i].Stamp.Seq)) from rfl,zjD]; rw [hv] at IH; simp only [if_true] at IH
     cases hf:mfind (l[i].Stamp.Source,l[i].Stamp.Seq) m with
     | none=>rw [hf] at IH; simp only [znk,zcc,zaF,Option.getD_none]; rw [zcY]; exact IH _ rfl
     | some g =>
       rw [hf] at IH; have hg:=hm _ (zh5 hf); simp only at hg; have hgl:g.first.toNat < l.length:=by omega
       simp only [zie,zbH,zat,zfi]; rw [zan hg.1,zbJ,zaB hgl,zaX,c_Same _ _ (hp _ (zbi hgl)),zao]; by_cases he:l[g.first.toNat]=l[i]
       · rw [decide_eq_true he,zbH,zat,zcY]; exact IH _ (by simp only [zaB hgl,he,if_true])
       · rw [decide_eq_false he,zcc,zaF,zcY]; exact IH _ (by simp only [zaB hgl,zax,he,if_false])
theorem c_groups_d (l:List zab) (hl:l.length≤1000000) (hp:∀ e∈l,e.Pages.length≤1000000):cw zcU [.sl 9 (List.map zaa l)] []=some (zdd (zbM l)):=by refine zuh l ?_; have:=zzH l hl hp l.length 0 [] (by omega) (by simp); rw [znr] at this; exact this
theorem zp1 {l:List zab}:∀ {r:List zab} {i:Nat} {m:zcO},(∀ p∈m,0≤p.2.first∧p.2.first < (i:Int))→∀ p∈zcI l r i m,0≤p.2.first∧p.2.first < ((i+r.length:Nat):Int)
 | [],i,m,h,p,hp=>by simpa using h p hp
 | e :: r,i,m,h,p,hp=>by have:=zp1 (zmM h) p hp; simp only [zfQ] at this ⊢; omega
theorem zus (l:List zab):∀ p∈zbM l,0≤p.2.first∧p.2.first < (l.length:Int):=fun p hp=>by have:=zp1 (l:=l) (r:=l) (i:=0) (m:=[]) (by simp) p hp; simpa using this
theorem zsX {κ ν:Type} [DecidableEq κ] {k:κ} {v:ν}:∀ {l:List (κ×ν)},(mput k v l).length≤l.length+1
 | []=>by simp [mput]
 | p :: r=>by
   unfold mput; split
   · simp
   · have:=zsX (k:=k) (v:=v) (l:=r); simp only [zfQ]; omega
theorem zzG {l:List zab} {m:zcO} {i:Nat} {e:zab}:(zdC l m i e).length≤m.length+1:=by
 unfold zdC; split
 · split
   · exact zsX
   · exact zsX
 · omega
theorem zrN {l:List zab}:∀ {r:List zab} {i:Nat} {m:zcO},(zcI l r i m).length≤m.length+r.length
 | [],i,m=>by simp [zcI]
 | e :: r,i,m=>by have h1:=zrN (l:=l) (r:=r) (i:=i+1) (m:=zdC l m i e); have h2:=zzG (l:=l) (m:=m) (i:=i) (e:=e); unfold zcI; simp only [zfQ]; omega
theorem zsP (l:List zab):(zbM l).length≤l.length:=by have:=zrN (l:=l) (r:=l) (i:=0) (m:=[]); rw [zpy,zbO] at this; exact this
theorem zuz {κ ν:Type} [DecidableEq κ] {k:κ} {v:ν} {l:List (κ×ν)} (h:(l.map (·.1)).Nodup):((mput k v l).map (·.1)).Nodup∧∀ x,x∈(mput k v l).map (·.1)→x=k∨x∈l.map (·.1):=by
 induction l with
 | nil=>simp [mput]
 | cons p r ih =>
   obtain ⟨h1,h2⟩:=zfP.1 h; unfold mput; split
   · rename_i hk; refine ⟨by simpa [← hk] using h,fun x hx=>?_⟩; simp only [zcu,za7] at hx ⊢; rcases hx with h | h
     · exact .inl h
     · exact .inr (.inr h)
   · rename_i hk; obtain ⟨i1,i2⟩:=ih h2; refine ⟨zfP.2 ⟨fun hm=>?_,i1⟩,fun x hx=>?_⟩
     · rcases i2 _ hm with h | h
       · exact hk h
       · exact h1 h
     · simp only [zcu,za7] at hx ⊢; rcases hx with h | h
       · exact .inr (.inl h)
       · rcases i2 x h with h | h
         · exact .inl h
         · exact .inr (.inr h)
def Keyed (l:List zab) (m:zcO):Prop:=(m.map (·.1)).Nodup∧∀ p∈m,∃ e,l[p.2.first.toNat]?=some e∧(e.Stamp.Source,e.Stamp.Seq)=p.1∧eventB e=true
theorem zxP {l:List zab} {m:zcO} {i:Nat} {e:zab} (h:Keyed l m) (he:l[i]?=some e):Keyed l (zdC l m i e):=by
 unfold zdC; split
 · rename_i hv; split
   · refine ⟨(zuz h.1).1,fun p hp=>?_⟩; rcases zlV hp with rfl | hp
     · exact ⟨e,by simpa using he,rfl,hv⟩
     · exact h.2 p hp
   · rename_i g hg; refine ⟨(zuz h.1).1,fun p hp=>?_⟩; rcases zlV hp with rfl | hp
     · obtain ⟨e',h1,h2,h3⟩:=h.2 _ (zh5 hg); exact ⟨e',h1,h2,h3⟩
     · exact h.2 p hp
 · exact h
theorem zp2 {l:List zab}:∀ {r:List zab} {i:Nat} {m:zcO},Keyed l m→l.drop i=r→Keyed l (zcI l r i m)
 | [],i,m,h,_=>h
 | e :: r,i,m,h,hd=>by
   unfold zcI
   have he:l[i]?=some e:=by have:=congrArg (·[0]?) hd; simpa using this
   refine zp2 (zxP h he) ?_; have:=congrArg (List.drop 1) hd; simpa [List.drop_drop] using this
theorem zmN (l:List zab):Keyed l (zbM l):=zp2 ⟨by simp,by simp⟩ (by simp)
theorem zto {l:List zab} {m:zcO} (h:Keyed l m):(m.filterMap (pickG l)).Pairwise (fun a b=>(a.Stamp.Source,a.Stamp.Seq)≠(b.Stamp.Source,b.Stamp.Seq))∧∀ e∈m.filterMap (pickG l),eventB e=true∧e∈l:=by
 constructor
 · rw [List.pairwise_filterMap]; have hn:=h.1; rw [List.Nodup,List.pairwise_map] at hn; refine List.Pairwise.imp_of_mem ?_ hn; intro a b ha hb hab x hx y hy; obtain ⟨e,h1,h2,_⟩:=h.2 a ha; obtain ⟨f,h3,h4,_⟩:=h.2 b hb
   have e1:x=e:=by
    unfold pickG at hx; split at hx
    · cases hx
    · rw [h1] at hx; injection hx with hx; exact hx.symm
   have e2:y=f:=by
    unfold pickG at hy; split at hy
    · cases hy
    · rw [h3] at hy; injection hy with hy; exact hy.symm
   subst e1 e2; rw [h2,h4]; exact hab
 · intro x hx; obtain ⟨p,hp,hpx⟩:=zpl.1 hx; obtain ⟨e,h1,_,h3⟩:=h.2 p hp; unfold pickG at hpx; split at hpx
   · cases hpx
   · rw [h1] at hpx; injection hpx with hpx; subst hpx; exact ⟨h3,zbU h1⟩
theorem keep_mem {l:List zab} {e:zab} (h:e∈keepS l):eventB e=true∧e∈l:=(zto (zmN l)).2 e h
theorem zwO (l:List zab):(keepS l).Pairwise (fun a b=>(a.Stamp.Source,a.Stamp.Seq)≠(b.Stamp.Source,b.Stamp.Seq)):=(zto (zmN l)).1
theorem zAF {α:Type} {f:α→Int×Int} {l:List α} (h:l.Pairwise (fun a b=>f a≠f b)) {a b:α} (ha:a∈l) (hb:b∈l) (e:f a=f b):a=b:=by
 induction l with
 | nil=>cases ha
 | cons x r ih =>
   obtain ⟨h1,h2⟩:=zjY.1 h; rcases za7.1 ha with ea | ha'
   · rcases za7.1 hb with eb | hb'
     · rw [ea,eb]
     · rw [ea] at e; exact absurd e (h1 b hb')
   · rcases za7.1 hb with eb | hb'
     · rw [eb] at e; exact absurd e.symm (h1 a ha')
     · exact ih h2 ha' hb'
theorem keep_inj {l:List zab} {a b:zab} (ha:a∈keepS l) (hb:b∈keepS l) (e:a.Stamp=b.Stamp):a=b:=zAF (f:=fun x=>(x.Stamp.Source,x.Stamp.Seq)) (zwO l) ha hb (by simp only [e])
theorem zmz (l:List zab):(canonS l).Pairwise (fun a b=>lessS b.Stamp a.Stamp=false):=
 zmO (lt:=fun a b:zab=>lessS a.Stamp b.Stamp) (fun _ _ _ h1 h2=>znZ h1 h2) (fun _ _ h=>znY h) _
theorem zdl (l:List zab):List.Perm (canonS l) (keepS l):=zfA _
theorem zsB {l r:List zab} (hp:List.Perm r (keepS l)) (hs:r.Pairwise (fun a b=>lessS b.Stamp a.Stamp=false)):r=canonS l:=
 zlE (lt:=fun a b:zab=>lessS a.Stamp b.Stamp) (hp.trans (zdl l).symm) hs (zmz l) (fun _ ha _ hb h1 h2=>keep_inj (hp.mem_iff.1 ha) (hp.mem_iff.1 hb) (lessS_eq h1 h2))
theorem swoE:Go.Sort.SWO (fun a b:zab=>lessS a.Stamp b.Stamp) where
 irrefl:=fun x=>by rcases zq5 x.Stamp x.Stamp with h | h <;> exact h
 trans:=fun x y z h1 h2=>by
  cases h:lessS x.Stamp z.Stamp with
  | true=>rfl
  | false=>have h3:=znZ (znY h2) h; rw [h1] at h3; cases h3
 ntrans:=fun x y z h1 h2=>znZ h2 h1
theorem cmpE:SX.Cmp (S:=sgE) (fun a b:zab=>lessS a.Stamp b.Stamp) (fun _=>True) where
 ans:=fun x y _ _=>⟨_,zzu x y,cmpS_neg _ _⟩
theorem cnLegs (b:Bool) {l:List zab} (h:FewEv l):CnLegs b l where
 len:=h.1
 glen:=by have:=zsP l; have:=h.1; omega
 few:=by have:=h.2.1; omega
 cGroups:=by
  cases b with
  | true=>exact c_groups l (by have:=h.1; omega) h.2.2
  | false=>exact c_groups_d l (by have:=h.1; omega) h.2.2
 first:=zus l
 cSort:=fun ev hp=>by
  have hl:ev.length < 256:=by have:=hp.length_eq; have:=h.2.1; omega
  obtain ⟨l',h1,h2,h3⟩:=SX.c_SortFunc (S:=sgE) cmpE swoE ev (fun _ _=>trivial) hl; rw [zsB (h2.trans hp) h3] at h1; exact h1
 perm:=zdl l
 cClone:=fun e he=>c_clone e (h.2.2 e (keep_mem ((zdl l).mem_iff.1 he)).2)
set_option maxRecDepth 100000
theorem f0 (b:Bool) (s:zaz) (l:List zab):tReg zaS zT 0 ⟨[(0,AV.agg [AV.sl 5 (List.map zaT s.Markers),AV.sl 7 (List.map za0 s.Scripts),AV.sl 3 (List.map zaJ s.Papers),AV.sl 2 (List.map zbY s.Schemes),AV.sl 2 (List.map zch s.Seeds),I s.Monitor.Part,I s.Monitor.Total,I s.Monitor.Window,I s.Monitor.Fails]),(1,frA b 1001 l)],frM b 1001 l⟩=(some ⟨[(1,frA b 1001 l),(2,AV.loc 2 9 0 0),(4,AV.loc 4 2 0 0)],[(2,⟨9,zaA,[zaq s],true⟩),(4,⟨2,zav,[[AV.v (.slice none 0 0),AV.v (.slice none 0 0)]],true⟩)]++frM b 1001 l⟩):=by cases b <;> kernel_rfl
theorem f1 (b:Bool) (s:zaz) (l:List zab):tReg zaS zT 1 ⟨[(1,frA b 1001 l),(2,AV.loc 2 9 0 0),(4,AV.loc 4 2 0 0)],[(2,⟨9,zaA,[zaq s],true⟩),(4,⟨2,zav,[[AV.v (.slice none 0 0),AV.v (.slice none 0 0)]],true⟩)]++frM b 1001 l⟩=(callD zaL (cw zgU [AV.agg (zaq s)] []) fun (r0:Int)=>some ⟨[(1,frA b 1001 l),(2,AV.loc 2 9 0 0),(4,AV.loc 4 2 0 0),(17,B (r0 != 0))],[(2,⟨9,zaA,[zaq s],true⟩),(4,⟨2,zav,[[AV.v (.slice none 0 0),AV.v (.slice none 0 0)]],true⟩)]++frM b 1001 l⟩):=by cases b <;> kernel_rfl
theorem f4 (b:Bool) (s:zaz) (l:List zab) (ev:List zab) (c:Int):tReg zaS zT 4 ⟨[(2,AV.loc 2 9 0 0),(4,AV.loc 4 2 0 0),(6,AV.sl 9 (List.map zaa ev)),(7,I c)],[(2,⟨9,zaA,[zaq s],true⟩),(4,⟨2,zav,[[AV.v (.slice none 0 0),AV.v (.slice none 0 0)]],true⟩)]++frM b 1001 l⟩=(some ⟨[(2,AV.loc 2 9 0 0),(4,AV.loc 4 2 0 0),(6,AV.sl 9 (List.map zaa ev)),(7,I c),(25,B (c != 0))],[(2,⟨9,zaA,[zaq s],true⟩),(4,⟨2,zav,[[AV.v (.slice none 0 0),AV.v (.slice none 0 0)]],true⟩)]++frM b 1001 l⟩):=by cases b <;> kernel_rfl
theorem f6 (b:Bool) (s:zaz) (l:List zab) (ev:List zab):tReg zaS zT 6 ⟨[(2,AV.loc 2 9 0 0),(4,AV.loc 4 2 0 0),(6,AV.sl 9 (List.map zaa ev))],[(2,⟨9,zaA,[zaq s],true⟩),(4,⟨2,zav,[[AV.v (.slice none 0 0),AV.v (.slice none 0 0)]],true⟩)]++frM b 1001 l⟩=(callD zhV (cw zcN [AV.agg (zaq s),AV.sl 9 (List.map zaa ev)] []) fun (r0:List (Option zah)×List (zay×zaM))=>some ⟨[(4,AV.loc 4 2 0 0),(8,AV.fa 1 (List.map nDp r0.fst)),(9,AV.mp (List.map zal r0.snd))],[(4,⟨2,zav,[[AV.v (.slice none 0 0),AV.v (.slice none 0 0)]],true⟩)]++frM b 1001 l⟩):=by cases b <;> kernel_rfl
theorem f7 (b:Bool) (l:List zab) (ds:List (Option zah)) (R:List (zay×zaM)):tReg zaS zT 7 ⟨[(4,AV.loc 4 2 0 0),(8,AV.fa 1 (List.map nDp ds)),(9,AV.mp (List.map zal R))],[(4,⟨2,zav,[[AV.v (.slice none 0 0),AV.v (.slice none 0 0)]],true⟩)]++frM b 1001 l⟩=(some ⟨[(4,AV.loc 4 2 0 0),(8,AV.fa 1 (List.map nDp ds)),(9,AV.mp (List.map zal R)),(10,AV.loc 10 2 0 0)],[(4,⟨2,zav,[[AV.v (.slice none 0 0),AV.v (.slice none 0 0)]],true⟩),(10,⟨2,zav,[[AV.row 301 8 0 0,AV.row 302 12 0 0]],true⟩),(301,⟨8,zaP,[],false⟩),(302,⟨12,zas,[],false⟩)]++frM b 1001 l⟩):=by cases b <;> kernel_rfl
theorem f8 (b:Bool) (l:List zab) (ds:List (Option zah)) (R:List (zay×zaM)) (xs:List (List AV)) (ys:List (List AV)):tReg zaS zT 8 ⟨[(4,AV.loc 4 2 0 0),(8,AV.fa 1 (List.map nDp ds)),(9,AV.mp (List.map zal R)),(10,AV.loc 10 2 0 0)],[(4,⟨2,zav,[[AV.v (.slice none 0 0),AV.v (.slice none 0 0)]],true⟩),(10,⟨2,zav,[[AV.row 301 8 0 (List.length xs),AV.row 302 12 0 (List.length ys)]],true⟩),(301,⟨8,zaP,xs,false⟩),(302,⟨12,zas,ys,false⟩)]++frM b 1001 l⟩=(some ⟨[(4,AV.loc 4 2 0 0),(9,AV.mp (List.map zal R)),(10,AV.loc 10 2 0 0),(34,AV.fa 1 (List.map nDp ds)),(35,I 0)],[(4,⟨2,zav,[[AV.v (.slice none 0 0),AV.v (.slice none 0 0)]],true⟩),(10,⟨2,zav,[[AV.row 301 8 0 (List.length xs),AV.row 302 12 0 (List.length ys)]],true⟩),(301,⟨8,zaP,xs,false⟩),(302,⟨12,zas,ys,false⟩)]++frM b 1001 l⟩):=by cases b <;> kernel_rfl
theorem f9 (b:Bool) (l:List zab) (ds:List (Option zah)) (R:List (zay×zaM)) (xs:List (List AV)) (ys:List (List AV)) (i:Int):tReg zaS zT 9 ⟨[(4,AV.loc 4 2 0 0),(9,AV.mp (List.map zal R)),(10,AV.loc 10 2 0 0),(34,AV.fa 1 (List.map nDp ds)),(35,I i)],[(4,⟨2,zav,[[AV.v (.slice none 0 0),AV.v (.slice none 0 0)]],true⟩),(10,⟨2,zav,[[AV.row 301 8 0 (List.length xs),AV.row 302 12 0 (List.length ys)]],true⟩),(301,⟨8,zaP,xs,false⟩),(302,⟨12,zas,ys,false⟩)]++frM b 1001 l⟩=(some ⟨[(4,AV.loc 4 2 0 0),(9,AV.mp (List.map zal R)),(10,AV.loc 10 2 0 0),(34,AV.fa 1 (List.map nDp ds)),(35,I i),(36,B (decide (i < 100)))],[(4,⟨2,zav,[[AV.v (.slice none 0 0),AV.v (.slice none 0 0)]],true⟩),(10,⟨2,zav,[[AV.row 301 8 0 (List.length xs),AV.row 302 12 0 (List.length ys)]],true⟩),(301,⟨8,zaP,xs,false⟩),(302,⟨12,zas,ys,false⟩)]++frM b 1001 l⟩):=by cases b <;> kernel_rfl
theorem f10 (b:Bool) (l:List zab) (ds:List (Option zah)) (R:List (zay×zaM)) (xs:List (List AV)) (ys:List (List AV)) (i:Int):tReg zaS zT 10 ⟨[(4,AV.loc 4 2 0 0),(9,AV.mp (List.map zal R)),(10,AV.loc 10 2 0 0),(34,AV.fa 1 (List.map nDp ds)),(35,I i)],[(4,⟨2,zav,[[AV.v (.slice none 0 0),AV.v (.slice none 0 0)]],true⟩),(10,⟨2,zav,[[AV.row 301 8 0 (List.length xs),AV.row 302 12 0 (List.length ys)]],true⟩),(301,⟨8,zaP,xs,false⟩),(302,⟨12,zas,ys,false⟩)]++frM b 1001 l⟩=(chk ((0:Int)≤i)<|
 chk ((i:Int) < (↑100:Int))<|
 elemP ze7 (List.map nDp ds) i.toNat (some ⟨[(4,AV.loc 4 2 0 0),(9,AV.mp (List.map zal R)),(10,AV.loc 10 2 0 0),(11,I i),(12,AV.v (.pointer none)),(34,AV.fa 1 (List.map nDp ds)),(35,I i)],[(4,⟨2,zav,[[AV.v (.slice none 0 0),AV.v (.slice none 0 0)]],true⟩),(10,⟨2,zav,[[AV.row 301 8 0 (List.length xs),AV.row 302 12 0 (List.length ys)]],true⟩),(301,⟨8,zaP,xs,false⟩),(302,⟨12,zas,ys,false⟩)]++frM b 1001 l⟩)
 (fun (p0:Addr)=>some ⟨[(4,AV.loc 4 2 0 0),(9,AV.mp (List.map zal R)),(10,AV.loc 10 2 0 0),(11,I i),(12,AV.v (.pointer (some p0))),(34,AV.fa 1 (List.map nDp ds)),(35,I i)],[(4,⟨2,zav,[[AV.v (.slice none 0 0),AV.v (.slice none 0 0)]],true⟩),(10,⟨2,zav,[[AV.row 301 8 0 (List.length xs),AV.row 302 12 0 (List.length ys)]],true⟩),(301,⟨8,zaP,xs,false⟩),(302,⟨12,zas,ys,false⟩)]++frM b 1001 l⟩)
 fun (c1:zah) =>
 some ⟨[(4,AV.loc 4 2 0 0),(9,AV.mp (List.map zal R)),(10,AV.loc 10 2 0 0),(11,I i),(12,AV.fp [I c1.level,AV.sl 10 (List.map zak c1.marks),I c1.period,I c1.started.Time,I c1.started.Source,I c1.started.Seq,AV.mp (List.map zau c1.noted),AV.sl 1 (List.map nBool c1.watch.Last),B c1.watch.Suspended,I c1.good.Time,I c1.good.Source,I c1.good.Seq,B c1.some,AV.sl 12 (List.map zag c1.suspensions)]),(34,AV.fa 1 (List.map nDp ds)),(35,I i)],[(4,⟨2,zav,[[AV.v (.slice none 0 0),AV.v (.slice none 0 0)]],true⟩),(10,⟨2,zav,[[AV.row 301 8 0 (List.length xs),AV.row 302 12 0 (List.length ys)]],true⟩),(301,⟨8,zaP,xs,false⟩),(302,⟨12,zas,ys,false⟩)]++frM b 1001 l⟩):=by cases b <;> kernel_rfl
theorem f11n (b:Bool) (l:List zab) (ds:List (Option zah)) (R:List (zay×zaM)) (xs:List (List AV)) (ys:List (List AV)) (i:Int):tReg zaS zT 11 ⟨[(4,AV.loc 4 2 0 0),(9,AV.mp (List.map zal R)),(10,AV.loc 10 2 0 0),(11,I i),(12,AV.v (.pointer none)),(34,AV.fa 1 (List.map nDp ds)),(35,I i)],[(4,⟨2,zav,[[AV.v (.slice none 0 0),AV.v (.slice none 0 0)]],true⟩),(10,⟨2,zav,[[AV.row 301 8 0 (List.length xs),AV.row 302 12 0 (List.length ys)]],true⟩),(301,⟨8,zaP,xs,false⟩),(302,⟨12,zas,ys,false⟩)]++frM b 1001 l⟩=(some ⟨[(4,AV.loc 4 2 0 0),(9,AV.mp (List.map zal R)),(10,AV.loc 10 2 0 0),(11,I i),(12,AV.v (.pointer none)),(34,AV.fa 1 (List.map nDp ds)),(35,I i),(42,B true)],[(4,⟨2,zav,[[AV.v (.slice none 0 0),AV.v (.slice none 0 0)]],true⟩),(10,⟨2,zav,[[AV.row 301 8 0 (List.length xs),AV.row 302 12 0 (List.length ys)]],true⟩),(301,⟨8,zaP,xs,false⟩),(302,⟨12,zas,ys,false⟩)]++frM b 1001 l⟩):=by cases b <;> kernel_rfl
theorem f11d (b:Bool) (l:List zab) (ds:List (Option zah)) (R:List (zay×zaM)) (xs:List (List AV)) (ys:List (List AV)) (i:Int) (d:zah):tReg zaS zT 11 ⟨[(4,AV.loc 4 2 0 0),(9,AV.mp (List.map zal R)),(10,AV.loc 10 2 0 0),(11,I i),(12,AV.fp [I d.level,AV.sl 10 (List.map zak d.marks),I d.period,I d.started.Time,I d.started.Source,I d.started.Seq,AV.mp (List.map zau d.noted),AV.sl 1 (List.map nBool d.watch.Last),B d.watch.Suspended,I d.good.Time,I d.good.Source,I d.good.Seq,B d.some,AV.sl 12 (List.map zag d.suspensions)]),(34,AV.fa 1 (List.map nDp ds)),(35,I i)],[(4,⟨2,zav,[[AV.v (.slice none 0 0),AV.v (.slice none 0 0)]],true⟩),(10,⟨2,zav,[[AV.row 301 8 0 (List.length xs),AV.row 302 12 0 (List.length ys)]],true⟩),(301,⟨8,zaP,xs,false⟩),(302,⟨12,zas,ys,false⟩)]++frM b 1001 l⟩=(some ⟨[(4,AV.loc 4 2 0 0),(9,AV.mp (List.map zal R)),(10,AV.loc 10 2 0 0),(11,I i),(12,AV.fp [I d.level,AV.sl 10 (List.map zak d.marks),I d.period,I d.started.Time,I d.started.Source,I d.started.Seq,AV.mp (List.map zau d.noted),AV.sl 1 (List.map nBool d.watch.Last),B d.watch.Suspended,I d.good.Time,I d.good.Source,I d.good.Seq,B d.some,AV.sl 12 (List.map zag d.suspensions)]),(34,AV.fa 1 (List.map nDp ds)),(35,I i),(42,B false)],[(4,⟨2,zav,[[AV.v (.slice none 0 0),AV.v (.slice none 0 0)]],true⟩),(10,⟨2,zav,[[AV.row 301 8 0 (List.length xs),AV.row 302 12 0 (List.length ys)]],true⟩),(301,⟨8,zaP,xs,false⟩),(302,⟨12,zas,ys,false⟩)]++frM b 1001 l⟩):=by cases b <;> kernel_rfl
theorem f12 (b:Bool) (l:List zab) (ds:List (Option zah)) (R:List (zay×zaM)) (xs:List (List AV)) (ys:List (List AV)) (i:Int) (d:zah):tReg zaS zT 12 ⟨[(4,AV.loc 4 2 0 0),(9,AV.mp (List.map zal R)),(10,AV.loc 10 2 0 0),(11,I i),(12,AV.fp [I d.level,AV.sl 10 (List.map zak d.marks),I d.period,I d.started.Time,I d.started.Source,I d.started.Seq,AV.mp (List.map zau d.noted),AV.sl 1 (List.map nBool d.watch.Last),B d.watch.Suspended,I d.good.Time,I d.good.Source,I d.good.Seq,B d.some,AV.sl 12 (List.map zag d.suspensions)]),(34,AV.fa 1 (List.map nDp ds)),(35,I i)],[(4,⟨2,zav,[[AV.v (.slice none 0 0),AV.v (.slice none 0 0)]],true⟩),(10,⟨2,zav,[[AV.row 301 8 0 (List.length xs),AV.row 302 12 0 (List.length ys)]],true⟩),(301,⟨8,zaP,xs,false⟩),(302,⟨12,zas,ys,false⟩)]++frM b 1001 l⟩=(chk (ys.length=ys.length)<|
 chk ((ys.length+(List.map zag d.suspensions).length)*(88+1)≤1099511627776)<|
 some ⟨[(4,AV.loc 4 2 0 0),(9,AV.mp (List.map zal R)),(10,AV.loc 10 2 0 0),(11,I i),(12,AV.fp [I d.level,AV.sl 10 (List.map zak d.marks),I d.period,I d.started.Time,I d.started.Source,I d.started.Seq,AV.mp (List.map zau d.noted),AV.sl 1 (List.map nBool d.watch.Last),B d.watch.Suspended,I d.good.Time,I d.good.Source,I d.good.Seq,B d.some,AV.sl 12 (List.map zag d.suspensions)]),(34,AV.fa 1 (List.map nDp ds)),(35,I i)],[(4,⟨2,zav,[[AV.v (.slice none 0 0),AV.v (.slice none 0 0)]],true⟩),(10,⟨2,zav,[[AV.row 301 8 0 (List.length xs),AV.row 302 12 0 (List.length (ys++(List.map zag d.suspensions)))]],true⟩),(301,⟨8,zaP,xs,false⟩),(302,⟨12,zas,ys++(List.map zag d.suspensions),false⟩)]++frM b 1001 l⟩):=by cases b <;> kernel_rfl
theorem f13 (b:Bool) (l:List zab) (ds:List (Option zah)) (R:List (zay×zaM)) (xs:List (List AV)) (ys:List (List AV)) (i:Int) (d:zah):tSeg zaS zT 13 0 3 ⟨[(4,AV.loc 4 2 0 0),(9,AV.mp (List.map zal R)),(10,AV.loc 10 2 0 0),(11,I i),(12,AV.fp [I d.level,AV.sl 10 (List.map zak d.marks),I d.period,I d.started.Time,I d.started.Source,I d.started.Seq,AV.mp (List.map zau d.noted),AV.sl 1 (List.map nBool d.watch.Last),B d.watch.Suspended,I d.good.Time,I d.good.Source,I d.good.Seq,B d.some,AV.sl 12 (List.map zag d.suspensions)]),(34,AV.fa 1 (List.map nDp ds)),(35,I i)],[(4,⟨2,zav,[[AV.v (.slice none 0 0),AV.v (.slice none 0 0)]],true⟩),(10,⟨2,zav,[[AV.row 301 8 0 (List.length xs),AV.row 302 12 0 (List.length ys)]],true⟩),(301,⟨8,zaP,xs,false⟩),(302,⟨12,zas,ys,false⟩)]++frM b 1001 l⟩=(callD zd7 (cw zdh [AV.fp [I d.level,AV.sl 10 (List.map zak d.marks),I d.period,I d.started.Time,I d.started.Source,I d.started.Seq,AV.mp (List.map zau d.noted),AV.sl 1 (List.map nBool d.watch.Last),B d.watch.Suspended,I d.good.Time,I d.good.Source,I d.good.Seq,B d.some,AV.sl 12 (List.map zag d.suspensions)],AV.mp (List.map zal R)] []) fun (r0:(List (zay×zab)))=>some ⟨[(53,AV.map 53),(52,AV.mp (List.map zal R)),(51,AV.fp [I d.level,AV.sl 10 (List.map zak d.marks),I d.period,I d.started.Time,I d.started.Source,I d.started.Seq,AV.mp (List.map zau d.noted),AV.sl 1 (List.map nBool d.watch.Last),B d.watch.Suspended,I d.good.Time,I d.good.Source,I d.good.Seq,B d.some,AV.sl 12 (List.map zag d.suspensions)]),(4,AV.loc 4 2 0 0),(9,AV.mp (List.map zal R)),(10,AV.loc 10 2 0 0),(11,I i),(12,AV.fp [I d.level,AV.sl 10 (List.map zak d.marks),I d.period,I d.started.Time,I d.started.Source,I d.started.Seq,AV.mp (List.map zau d.noted),AV.sl 1 (List.map nBool d.watch.Last),B d.watch.Suspended,I d.good.Time,I d.good.Source,I d.good.Seq,B d.some,AV.sl 12 (List.map zag d.suspensions)]),(34,AV.fa 1 (List.map nDp ds)),(35,I i)],[(53,⟨0,zbN,List.map zbC r0,false⟩),(4,⟨2,zav,[[AV.v (.slice none 0 0),AV.v (.slice none 0 0)]],true⟩),(10,⟨2,zav,[[AV.row 301 8 0 (List.length xs),AV.row 302 12 0 (List.length ys)]],true⟩),(301,⟨8,zaP,xs,false⟩),(302,⟨12,zas,ys,false⟩)]++frM b 1001 l⟩):=by cases b <;> kernel_rfl
theorem f15 (b:Bool) (l:List zab) (ds:List (Option zah)) (R:List (zay×zaM)) (xs:List (List AV)) (ys:List (List AV)) (i:Int) (d:zah) (p:Addr) (k:zay) (e:zab):tSeg zaS zT 15 1 3 ⟨[(4,AV.loc 4 2 0 0),(9,AV.mp (List.map zal R)),(10,AV.loc 10 2 0 0),(11,I i),(12,AV.fp [I d.level,AV.sl 10 (List.map zak d.marks),I d.period,I d.started.Time,I d.started.Source,I d.started.Seq,AV.mp (List.map zau d.noted),AV.sl 1 (List.map nBool d.watch.Last),B d.watch.Suspended,I d.good.Time,I d.good.Source,I d.good.Seq,B d.some,AV.sl 12 (List.map zag d.suspensions)]),(34,AV.fa 1 (List.map nDp ds)),(35,I i),(54,AV.v (.pointer (some p))),(57,AV.tup [AV.agg [I k.script,I k.part],AV.agg [I e.Stamp.Time,I e.Stamp.Source,I e.Stamp.Seq,I e.Kind,I e.Script,I e.Part,I e.Value,I e.Marker,AV.sl 1 (List.map zaj e.Pages)]])],[(4,⟨2,zav,[[AV.v (.slice none 0 0),AV.v (.slice none 0 0)]],true⟩),(10,⟨2,zav,[[AV.row 301 8 0 (List.length xs),AV.row 302 12 0 (List.length ys)]],true⟩),(301,⟨8,zaP,xs,false⟩),(302,⟨12,zas,ys,false⟩)]++frM b 1001 l⟩=(some ⟨[(14,AV.loc 14 9 0 0),(58,AV.agg [I e.Stamp.Time,I e.Stamp.Source,I e.Stamp.Seq,I e.Kind,I e.Script,I e.Part,I e.Value,I e.Marker,AV.sl 1 (List.map zaj e.Pages)]),(4,AV.loc 4 2 0 0),(9,AV.mp (List.map zal R)),(10,AV.loc 10 2 0 0),(11,I i),(12,AV.fp [I d.level,AV.sl 10 (List.map zak d.marks),I d.period,I d.started.Time,I d.started.Source,I d.started.Seq,AV.mp (List.map zau d.noted),AV.sl 1 (List.map nBool d.watch.Last),B d.watch.Suspended,I d.good.Time,I d.good.Source,I d.good.Seq,B d.some,AV.sl 12 (List.map zag d.suspensions)]),(34,AV.fa 1 (List.map nDp ds)),(35,I i),(54,AV.v (.pointer (some p))),(57,AV.tup [AV.agg [I k.script,I k.part],AV.agg [I e.Stamp.Time,I e.Stamp.Source,I e.Stamp.Seq,I e.Kind,I e.Script,I e.Part,I e.Value,I e.Marker,AV.sl 1 (List.map zaj e.Pages)]])],[(14,⟨9,zac,[zaa e],true⟩),(4,⟨2,zav,[[AV.v (.slice none 0 0),AV.v (.slice none 0 0)]],true⟩),(10,⟨2,zav,[[AV.row 301 8 0 (List.length xs),AV.row 302 12 0 (List.length ys)]],true⟩),(301,⟨8,zaP,xs,false⟩),(302,⟨12,zas,ys,false⟩)]++frM b 1001 l⟩):=by cases b <;> kernel_rfl
theorem f16 (b:Bool) (l:List zab) (ds:List (Option zah)) (R:List (zay×zaM)) (xs:List (List AV)) (ys:List (List AV)) (i:Int) (d:zah) (p:Addr) (e:zab):tReg zaS zT 16 ⟨[(4,AV.loc 4 2 0 0),(9,AV.mp (List.map zal R)),(10,AV.loc 10 2 0 0),(11,I i),(12,AV.fp [I d.level,AV.sl 10 (List.map zak d.marks),I d.period,I d.started.Time,I d.started.Source,I d.started.Seq,AV.mp (List.map zau d.noted),AV.sl 1 (List.map nBool d.watch.Last),B d.watch.Suspended,I d.good.Time,I d.good.Source,I d.good.Seq,B d.some,AV.sl 12 (List.map zag d.suspensions)]),(14,AV.loc 14 9 0 0),(34,AV.fa 1 (List.map nDp ds)),(35,I i),(54,AV.v (.pointer (some p)))],[(4,⟨2,zav,[[AV.v (.slice none 0 0),AV.v (.slice none 0 0)]],true⟩),(10,⟨2,zav,[[AV.row 301 8 0 (List.length xs),AV.row 302 12 0 (List.length ys)]],true⟩),(14,⟨9,zac,[zaa e],true⟩),(301,⟨8,zaP,xs,false⟩),(302,⟨12,zas,ys,false⟩)]++frM b 1001 l⟩=(chk (xs.length=xs.length)<|
 chk ((xs.length+1)*(64+1)≤1099511627776)<|
 some ⟨[(4,AV.loc 4 2 0 0),(9,AV.mp (List.map zal R)),(10,AV.loc 10 2 0 0),(11,I i),(12,AV.fp [I d.level,AV.sl 10 (List.map zak d.marks),I d.period,I d.started.Time,I d.started.Source,I d.started.Seq,AV.mp (List.map zau d.noted),AV.sl 1 (List.map nBool d.watch.Last),B d.watch.Suspended,I d.good.Time,I d.good.Source,I d.good.Seq,B d.some,AV.sl 12 (List.map zag d.suspensions)]),(34,AV.fa 1 (List.map nDp ds)),(35,I i),(54,AV.v (.pointer (some p)))],[(4,⟨2,zav,[[AV.v (.slice none 0 0),AV.v (.slice none 0 0)]],true⟩),(10,⟨2,zav,[[AV.row 301 8 0 (List.length (xs++([[I e.Script,I e.Part,I i,I d.level,I e.Value,I e.Stamp.Time,I e.Stamp.Source,I e.Stamp.Seq]]))),AV.row 302 12 0 (List.length ys)]],true⟩),(301,⟨8,zaP,xs++([zbd (⟨e.Script,e.Part,i,d.level,e.Value,⟨e.Stamp.Time,e.Stamp.Source,e.Stamp.Seq⟩⟩)]),false⟩),(302,⟨12,zas,ys,false⟩)]++frM b 1001 l⟩):=by cases b <;> kernel_rfl
theorem f17 (b:Bool) (l:List zab) (ds:List (Option zah)) (R:List (zay×zaM)) (xs:List (List AV)) (ys:List (List AV)) (i:Int):tReg zaS zT 17 ⟨[(4,AV.loc 4 2 0 0),(9,AV.mp (List.map zal R)),(10,AV.loc 10 2 0 0),(34,AV.fa 1 (List.map nDp ds)),(35,I i)],[(4,⟨2,zav,[[AV.v (.slice none 0 0),AV.v (.slice none 0 0)]],true⟩),(10,⟨2,zav,[[AV.row 301 8 0 (List.length xs),AV.row 302 12 0 (List.length ys)]],true⟩),(301,⟨8,zaP,xs,false⟩),(302,⟨12,zas,ys,false⟩)]++frM b 1001 l⟩=(some ⟨[(4,AV.loc 4 2 0 0),(9,AV.mp (List.map zal R)),(10,AV.loc 10 2 0 0),(34,AV.fa 1 (List.map nDp ds)),(35,I (w64 (i+1)))],[(4,⟨2,zav,[[AV.v (.slice none 0 0),AV.v (.slice none 0 0)]],true⟩),(10,⟨2,zav,[[AV.row 301 8 0 (List.length xs),AV.row 302 12 0 (List.length ys)]],true⟩),(301,⟨8,zaP,xs,false⟩),(302,⟨12,zas,ys,false⟩)]++frM b 1001 l⟩):=by cases b <;> kernel_rfl
theorem f18 (b:Bool) (l:List zab) (gs:List zbv) (ys:List (List AV)):tReg zaS zT 18 ⟨[(4,AV.loc 4 2 0 0),(10,AV.loc 10 2 0 0)],[(4,⟨2,zav,[[AV.v (.slice none 0 0),AV.v (.slice none 0 0)]],true⟩),(10,⟨2,zav,[[AV.row 301 8 0 (List.length (List.map zbd gs)),AV.row 302 12 0 (List.length ys)]],true⟩),(301,⟨8,zaP,List.map zbd gs,false⟩),(302,⟨12,zas,ys,false⟩)]++frM b 1001 l⟩=(callD zbo (cw zfx [AV.row 1000 8 0 (List.length (List.map zbd gs)),AV.fn zep []] [(1000,⟨8,zaP,List.map zbd gs,false⟩)]) fun (r0:(List zbv))=>some ⟨[(4,AV.loc 4 2 0 0),(10,AV.loc 10 2 0 0)],[(4,⟨2,zav,[[AV.v (.slice none 0 0),AV.v (.slice none 0 0)]],true⟩),(10,⟨2,zav,[[AV.row 301 8 0 ((List.map zbd gs).length),AV.row 302 12 0 (List.length ys)]],true⟩),(301,⟨8,zaP,List.map zbd r0,false⟩),(302,⟨12,zas,ys,false⟩)]++frM b 1001 l⟩):=by cases b <;> kernel_rfl
theorem f19 (b:Bool) (l:List zab) (xs:List (List AV)) (ys:List (List AV)):tReg zaS zT 19 ⟨[(4,AV.loc 4 2 0 0),(10,AV.loc 10 2 0 0)],[(4,⟨2,zav,[[AV.v (.slice none 0 0),AV.v (.slice none 0 0)]],true⟩),(10,⟨2,zav,[[AV.row 301 8 0 (List.length xs),AV.row 302 12 0 (List.length ys)]],true⟩),(301,⟨8,zaP,xs,false⟩),(302,⟨12,zas,ys,false⟩)]++frM b 1001 l⟩=(some ⟨[(4,AV.loc 4 2 0 0),(5,I 0)],[(4,⟨2,zav,[[AV.row 301 8 0 (List.length xs),AV.row 302 12 0 (List.length ys)]],true⟩),(301,⟨8,zaP,xs,false⟩),(302,⟨12,zas,ys,false⟩)]++frM b 1001 l⟩):=by cases b <;> kernel_rfl
theorem f3 (s:zaz) (l:List zab):tReg zaS zT 3 ⟨[(1,AV.row 1001 9 0 (List.length (List.map zaa l))),(2,AV.loc 2 9 0 0),(4,AV.loc 4 2 0 0)],[(2,⟨9,zaA,[zaq s],true⟩),(4,⟨2,zav,[[AV.v (.slice none 0 0),AV.v (.slice none 0 0)]],true⟩),(1001,⟨9,zac,List.map zaa l,false⟩)]⟩=(callD zfh (cw zbl [AV.row 1000 9 0 (List.length (List.map zaa l))] [(1000,⟨9,zac,List.map zaa l,false⟩)]) fun (r0:((List zab)×Int)×(List zab))=>some ⟨[(2,AV.loc 2 9 0 0),(4,AV.loc 4 2 0 0),(6,AV.sl 9 (List.map zaa r0.fst.fst)),(7,I r0.fst.snd)],[(2,⟨9,zaA,[zaq s],true⟩),(4,⟨2,zav,[[AV.v (.slice none 0 0),AV.v (.slice none 0 0)]],true⟩),(1001,⟨9,zac,List.map zaa r0.snd,false⟩)]⟩):=by kernel_rfl
theorem f3f (s:zaz) (l:List zab):tReg zaS zT 3 ⟨[(1,AV.sl 9 (List.map zaa l)),(2,AV.loc 2 9 0 0),(4,AV.loc 4 2 0 0)],[(2,⟨9,zaA,[zaq s],true⟩),(4,⟨2,zav,[[AV.v (.slice none 0 0),AV.v (.slice none 0 0)]],true⟩)]⟩=(callD ze6 (cw zbl [AV.sl 9 (List.map zaa l)] []) fun (r0:(List zab)×Int)=>some ⟨[(2,AV.loc 2 9 0 0),(4,AV.loc 4 2 0 0),(6,AV.sl 9 (List.map zaa r0.fst)),(7,I r0.snd)],[(2,⟨9,zaA,[zaq s],true⟩),(4,⟨2,zav,[[AV.v (.slice none 0 0),AV.v (.slice none 0 0)]],true⟩)]⟩):=by kernel_rfl
set_option maxRecDepth 100000
def foC:Code:=(zaS.fn.body).getD .skip
def foO (j:Nat):Array Oper:=opsAt j foC
def foD (j:Nat):Bool:=zrF j foC
theorem fo_hb:zaS.fn.body=some foC:=by kernel_rfl
theorem fo_shape:foC=(.seq (.region 0 (foO 0) (foD 0)) (.seq (.seq (.region 1 (foO 1) (foD 1)) (.cond (.tmp 17) (.seq (.region 2 (foO 2) (foD 2)) .ret) .skip)) (.seq (.region 3 (foO 3) (foD 3)) (.seq (.seq (.region 4 (foO 4) (foD 4)) (.cond (.tmp 25) (.seq (.region 5 (foO 5) (foD 5)) .ret) .skip)) (.seq (.region 6 (foO 6) (foD 6)) (.seq (.region 7 (foO 7) (foD 7)) (.seq (.seq (.region 8 (foO 8) (foD 8)) (.block 0 (.loop (.seq (.region 9 (foO 9) (foD 9)) (.seq (.cond (.tmp 36) .skip (.exit 0)) (.seq (.block 1 (.seq (.region 10 (foO 10) (foD 10)) (.seq (.seq (.region 11 (foO 11) (foD 11)) (.cond (.tmp 42) (.exit 1) .skip)) (.seq (.region 12 (foO 12) (foD 12)) (.seq (.region 13 (foO 13) false) (.block 2 (.loop (.seq (.region 14 (foO 14) false) (.seq (.cond (.tmp 56) .skip (.exit 2)) (.block 3 (.seq (.region 15 (foO 15) false) (.region 16 (foO 16) (foD 16))))))))))))) (.region 17 (foO 17) (foD 17)))))))) (.seq (.region 18 (foO 18) (foD 18)) (.seq (.region 19 (foO 19) (foD 19)) .ret))))))))):=by kernel_rfl
theorem fo_r0:regOf 0 foC=some (.region 0 (foO 0) (foD 0)):=by kernel_rfl
theorem fo_r1:regOf 1 foC=some (.region 1 (foO 1) (foD 1)):=by kernel_rfl
theorem fo_r3:regOf 3 foC=some (.region 3 (foO 3) (foD 3)):=by kernel_rfl
theorem fo_r4:regOf 4 foC=some (.region 4 (foO 4) (foD 4)):=by kernel_rfl
theorem fo_r6:regOf 6 foC=some (.region 6 (foO 6) (foD 6)):=by kernel_rfl
theorem fo_r7:regOf 7 foC=some (.region 7 (foO 7) (foD 7)):=by kernel_rfl
theorem fo_r8:regOf 8 foC=some (.region 8 (foO 8) (foD 8)):=by kernel_rfl
theorem fo_r9:regOf 9 foC=some (.region 9 (foO 9) (foD 9)):=by kernel_rfl
theorem fo_r10:regOf 10 foC=some (.region 10 (foO 10) (foD 10)):=by kernel_rfl
theorem fo_r11:regOf 11 foC=some (.region 11 (foO 11) (foD 11)):=by kernel_rfl
theorem fo_r12:regOf 12 foC=some (.region 12 (foO 12) (foD 12)):=by kernel_rfl
theorem fo_r16:regOf 16 foC=some (.region 16 (foO 16) (foD 16)):=by kernel_rfl
theorem fo_r17:regOf 17 foC=some (.region 17 (foO 17) (foD 17)):=by kernel_rfl
theorem fo_r18:regOf 18 foC=some (.region 18 (foO 18) (foD 18)):=by kernel_rfl
theorem fo_r19:regOf 19 foC=some (.region 19 (foO 19) (foD 19)):=by kernel_rfl
theorem fo_r13:regOf 13 foC=some (.region 13 (foO 13) false):=by kernel_rfl
theorem fo_r15:regOf 15 foC=some (.region 15 (foO 15) false):=by kernel_rfl
theorem fo_n:zaS.fn.ntmps≤1000:=by decide
def zce (ds:Desks) (R:Reop) (n:Nat):List zbv:=(List.range n).flatMap fun (i:Nat)=>match ds i with
 | some d=>(countS d R).map fun p=>zcb i d p.2
 | none=>[]
def suspTo (ds:Desks) (n:Nat):List zba:=(List.range n).flatMap fun (i:Nat)=>match ds i with
 | some d=>d.suspensions
 | none=>[]
theorem zmL (ds:Desks) (R:Reop) (n:Nat):zce ds R (n+1)=zce ds R n++(match ds n with
 | some d=>(countS d R).map fun p=>zcb n d p.2
 | none=>[]):=by
 unfold zce; rw [zpG,List.flatMap_append]; simp
theorem zls (ds:Desks) (n:Nat):suspTo ds (n+1)=suspTo ds n++(match ds n with
 | some d=>d.suspensions
 | none=>[]):=by
 unfold suspTo; rw [zpG,List.flatMap_append]; simp
theorem zyK (ds:Desks) {i:Nat} (hi:i < 100):(List.map nDp (deskL ds))[i]?=some (nDp (ds i)):=by unfold deskL; rw [zcW,zcW,znf hi]; rfl
def gotOf (i:Nat) (d:zah) (cs:Counts) (done:List Nat):List zbv:=done.filterMap fun j=>cs[j]?.map fun p=>zcb i d p.2
noncomputable section
abbrev fA (b:Bool) (l:List zab):Nat×AV:=(1,frA b 1001 l)
abbrev fB2 (s:zaz):Nat×Ent:=(2,⟨9,zaA,[zaq s],true⟩)
abbrev fB4:Nat×Ent:=(4,⟨2,zav,[[.v (.slice none 0 0),.v (.slice none 0 0)]],true⟩)
abbrev fS2:Nat×AV:=(2,.loc 2 9 0 0)
abbrev fS4:Nat×AV:=(4,.loc 4 2 0 0)
abbrev fS10:Nat×AV:=(10,.loc 10 2 0 0)
abbrev fS9 (R:Reop):Nat×AV:=(9,.mp (List.map zal R))
abbrev fS34 (ds:Desks):Nat×AV:=(34,.fa 1 (List.map nDp (deskL ds)))
abbrev fS35 (i:Nat):Nat×AV:=(35,I (i:Int))
abbrev fS11 (i:Nat):Nat×AV:=(11,I (i:Int))
abbrev fS12 (d:zah):Nat×AV:=(12,.fp (zc1 d))
abbrev fS54 (r:Nat):Nat×AV:=(54,.v (.pointer (some ⟨r,0,none⟩)))
abbrev fM (b:Bool) (gs:List zbv) (us:List zba) (l:List zab):Mem:=[fB4,(10,⟨2,zav,[[.row 301 8 0 (List.map zbd gs).length,.row 302 12 0 (List.map zag us).length]],true⟩),(301,⟨8,zaP,List.map zbd gs,false⟩),(302,⟨12,zas,List.map zag us,false⟩)]++frM b 1001 l
abbrev stF (b:Bool) (l:List zab) (ds:Desks) (R:Reop) (gs:List zbv) (us:List zba) (i:Nat):St:=⟨[fS4,fS9 R,fS10,fS34 ds,fS35 i],fM b gs us l⟩
abbrev stG (b:Bool) (l:List zab) (ds:Desks) (R:Reop) (gs:List zbv) (us:List zba) (i:Nat) (d:zah) (r:Nat):St:=⟨[fS4,fS9 R,fS10,fS11 i,fS12 d,fS34 ds,fS35 i,fS54 r],fM b gs us l⟩
structure FoLegs (b:Bool) (s:zaz) (l:List zab) (ds:Desks) (R:Reop):Prop where
 cCheck:cw zgU [.agg (zaq s)] []=some (zbh 0)
 cCanon:cw zbl [frA b 1000 l] (frM b 1000 l)=some (bif b then zdI ((canonS l,0),l) else zcJ (canonS l,0))
 cWalk:cw zcN [.agg (zaq s),.sl 9 (List.map zaa (canonS l))] []=some (zhT (deskL ds,R))
 cCount:∀ i d,ds i=some d→cw zdh [.fp (zc1 d),.mp (List.map zal R)] []=some (zcL (countS d R))
 cSort:∀ gs,List.Perm gs (zce ds R 100)→cw zfx [.row 1000 8 0 (List.map zbd gs).length,.fn zep []] [(1000,⟨8,zaP,List.map zbd gs,false⟩)]=some (zdO (isort zb1 (zce ds R 100)))
 few:(zce ds R 100).length < 1000000
 fewS:(suspTo ds 100).length < 1000000
theorem f3b (b:Bool) (s:zaz) (l:List zab) {ev:List zab} (h:cw zbl [frA b 1000 l] (frM b 1000 l)=some (bif b then zdI ((ev,0),l) else zcJ (ev,0))):tReg zaS zT 3 ⟨[(1,frA b 1001 l),(2,AV.loc 2 9 0 0),(4,AV.loc 4 2 0 0)],[(2,⟨9,zaA,[zaq s],true⟩),(4,⟨2,zav,[[AV.v (.slice none 0 0),AV.v (.slice none 0 0)]],true⟩)]++frM b 1001 l⟩=some ⟨[(2,AV.loc 2 9 0 0),(4,AV.loc 4 2 0 0),(6,AV.sl 9 (List.map zaa ev)),(7,I 0)],[(2,⟨9,zaA,[zaq s],true⟩),(4,⟨2,zav,[[AV.v (.slice none 0 0),AV.v (.slice none 0 0)]],true⟩)]++frM b 1001 l⟩:=by
 cases b with
 | true=>have t:=f3 s l; rw [show cw zbl [AV.row 1000 9 0 (List.length (List.map zaa l))] [(1000,⟨9,zac,List.map zaa l,false⟩)]=some (zdI ((ev,0),l)) from h,zkU] at t; exact t
 | false=>have t:=f3f s l; rw [show cw zbl [AV.sl 9 (List.map zaa l)] []=some (zcJ (ev,0)) from h,zl9] at t; exact t
section
variable {w0:World} {S0:Nat→Prop} {κ0:Kap} {K:Nat→Prop} {a:Act} {w:World}
abbrev Y0:Sat2:=fun _ _ _ _=>True
theorem foStep {j:Nat} {st st':St} {X:Sat2} (hX:Stable X) (hr:regOf j foC=some (.region j (foO j) (foD j))) (ht:tReg zaS zT j st=some st')
  (h:NowP w0 S0 κ0 K zaS.fn.ntmps X st a w) {Q:Exit→Act→World→Prop} (hQ:∀ a' w',NowP w0 S0 κ0 K zaS.fn.ntmps X st' a' w'→Q .normal a' w'):(Code.region j (foO j) (foD j)).wp zaS.P Q a w:=stepP hX fo_hb fo_n hr ht h hQ
theorem got_snoc (i:Nat) (d:zah) (cs:Counts) (done:List Nat) {j:Nat} {k:zay} {e:zab} (hj:cs[j]?=some (k,e)):gotOf i d cs (done++[j])=gotOf i d cs done++[zcb i d e]:=by unfold gotOf; rw [List.filterMap_append]; congr 1; simp [hj]
theorem got_perm (i:Nat) (d:zah) (cs:Counts) {done:List Nat} (hd:done.Nodup) (h1:∀ i∈done,i < cs.length) (h2:∀ i,i < cs.length→i∈done):List.Perm (gotOf i d cs done) (cs.map fun p=>zcb i d p.2):=by
 have hp:List.Perm done (List.range cs.length):=(zpE hd List.nodup_range).2 (fun i=>⟨fun h=>zic.2 (h1 i h),fun h=>h2 i (zic.1 h)⟩); refine (hp.filterMap _).trans (.of_eq ?_)
 have e:(List.range cs.length).filterMap (fun j=>cs[j]?.map fun p=>zcb i d p.2)=((List.range cs.length).filterMap (fun j=>cs[j]?)).map fun p=>zcb i d p.2:=by rw [List.map_filterMap]
 rw [e,zmo]
theorem fo_range {b:Bool} {l:List zab} {ds:Desks} {R:Reop} {gs:List zbv} {us:List zba} {i:Nat} {d:zah} (hc:cw zdh [.fp (zc1 d),.mp (List.map zal R)] []=some (zcL (countS d R))) (hfew:gs.length+(countS d R).length < 1000000)
  (h:NowP w0 S0 κ0 K zaS.fn.ntmps Y0 ⟨[fS4,fS9 R,fS10,fS11 i,fS12 d,fS34 ds,fS35 i],fM b gs us l⟩ a w) {Q:Exit→Act→World→Prop}
  (hQ:∀ xs a' w',List.Perm xs ((countS d R).map fun p=>zcb i d p.2)→NowP w0 S0 κ0 K zaS.fn.ntmps Y0 (stF b l ds R (gs++xs) us i) a' w'→Q .normal a' w'):(Code.seq (.region 13 (foO 13) false) (.block 2 (.loop (.seq (.region 14 (foO 14) false) (.seq (.cond (.tmp 56) .skip (.exit 2)) (.block 3 (.seq (.region 15 (foO 15) false) (.region 16 (foO 16) (foD 16))))))))).wp zaS.P Q a w:=by
 refine wp_seq (wp_region ?_); have z2:(foO 13).size=4:=by kernel_rfl
 rw [z2,show List.range 4=List.range' 0 3++[3] from rfl]; have t2:=f13 b l (deskL ds) R (List.map zbd gs) (List.map zag us) i d; unfold zc1 at hc; rw [hc,zh1] at t2; refine segP Stable.none fo_hb fo_n fo_r13 t2 (by rw [z2]; decide) h (fun a1 w1 h1=>?_); have h2:=h1.freeze Stable.none fo_n [53] (by cases b <;> kernel_rfl) (st':=⟨[(53,.mp (List.map zbC (countS d R))),(52,.mp (List.map zal R)),(51,.fp (zc1 d)),fS4,fS9 R,fS10,fS11 i,fS12 d,fS34 ds,fS35 i],fM b gs us l⟩) (by cases b <;> kernel_rfl); rw [wpOps_cons]; refine range_op (t:=114) (k:=117) (e:=64) (by unfold opIs; kernel_rfl) (by cases b <;> kernel_rfl) (by decide) h2 (m:=53) (d:=54) rfl (fun a3 w3 r q en clock h3=>?_); have h4:=h3.trim Rng.stable [4,9,10,11,12,34,35,54] [] (st':=stG b l ds R gs us i d r) (by cases b <;> kernel_rfl); rw [show gs=gs++gotOf i d (countS d R) [] by simp [gotOf]] at h4; refine rng_loop (it:=54) (d1:=55) (d2:=56) (r:=r) (stf:=fun done=>stG b l ds R (gs++gotOf i d (countS d R) done) us i d r) [4,9,10,11,12,34,35,54] (by cases b <;> kernel_rfl) (by unfold opIs; kernel_rfl) (by unfold opIs; kernel_rfl) (by decide) (by decide) (fun _=>rfl) (fun _ _ _=>by cases b <;> kernel_rfl) ?_ h4 ?_
 · intro done j k v hd hl hjd hkv a w hn
   have hj:j < (countS d R).length:=by have:=(zbu.1 hkv).1; simpa using this
   rw [zcW,zaB hj] at hkv
   have hlen:(gs++gotOf i d (countS d R) done).length < 1000000:=by have h1:(gotOf i d (countS d R) done).length≤done.length:=zpF _ _; have h2:=zuC hd (n:=(countS d R).length) (fun i hi=>by simpa using hl i hi); rw [zfj]; omega
   have hev:=got_snoc i d (countS d R) done (j:=j) (k:=(countS d R)[j].1) (e:=(countS d R)[j].2) (zaB hj); simp only [hev,← zge]; generalize gs++gotOf i d (countS d R) done=xs at hn hlen ⊢; generalize hx:(countS d R)[j]=x at hkv ⊢; obtain ⟨kk,e⟩:=x; simp only [zc6,zax,zbC,zbm,and_true] at hkv; obtain ⟨rfl,rfl⟩:=hkv; refine wp_block (wp_seq (wp_region ?_)); have z4:(foO 15).size=4:=by kernel_rfl
   rw [z4,show List.range 4=0 :: (List.range' 1 3++[]) from rfl,wpOps_cons]; refine entry_op (by unfold opIs; kernel_rfl) (by decide) hn (it:=54) (d:=57) rfl (by rw [zcW,zaB hj,hx]; rfl) (fun a1 w1 h1=>?_); have h2:=h1.trim Rng.stable [4,9,10,11,12,34,35,54,57] [] (st':=⟨[fS4,fS9 R,fS10,fS11 i,fS12 d,fS34 ds,fS35 i,fS54 r,(57,.tup [.agg (zbe kk),.agg (zaa e)])],fM b xs us l⟩) (by cases b <;> kernel_rfl); refine segP Rng.stable fo_hb fo_n fo_r15 (f15 b l (deskL ds) R (List.map zbd xs) (List.map zag us) i d _ kk e) (by rw [z4]; decide) h2 (fun a3 w3 h3=>?_); have h4:=h3.trim Rng.stable [4,9,10,11,12,14,34,35,54] [] (st':=⟨[fS4,fS9 R,fS10,fS11 i,fS12 d,(14,.loc 14 9 0 0),fS34 ds,fS35 i,fS54 r],[fB4,(10,⟨2,zav,[[.row 301 8 0 (List.map zbd xs).length,.row 302 12 0 (List.map zag us).length]],true⟩),(14,⟨9,zac,[zaa e],true⟩),(301,⟨8,zaP,List.map zbd xs,false⟩),(302,⟨12,zas,List.map zag us,false⟩)]++frM b 1001 l⟩) (by cases b <;> kernel_rfl); have t6:=f16 b l (deskL ds) R (List.map zbd xs) (List.map zag us) i d ⟨r,0,none⟩ e; rw [zan rfl,zan (by simp only [zam]; omega)] at t6; refine foStep Rng.stable fo_r16 t6 h4 (fun a7 w7 h7=>⟨rfl,?_⟩); have e1:List.map zbd (xs++[zcb i d e])=List.map zbd xs++[zbd (zcb i d e)]:=by simp
   unfold stG fM; rw [e1]; exact h7
 · intro done hd hl hall a' w' hn; refine hQ _ a' w' (got_perm i d (countS d R) hd (fun i hi=>by simpa using hl i hi) (fun i hi=>hall i (by simpa using hi))) ?_; exact (hn.trim Rng.stable [4,9,10,34,35] [] (st':=stF b l ds R (gs++gotOf i d (countS d R) done) us i) (by cases b <;> kernel_rfl)).drop
theorem fo_loop {b:Bool} {s:zaz} {l:List zab} {ds:Desks} {R:Reop} (g:FoLegs b s l ds R) (h:NowP w0 S0 κ0 K zaS.fn.ntmps Y0 (stF b l ds R [] [] 0) a w) {Q:Exit→Act→World→Prop}
  (hQ:∀ gs a' w',List.Perm gs (zce ds R 100)→NowP w0 S0 κ0 K zaS.fn.ntmps Y0 (stF b l ds R gs (suspTo ds 100) 100) a' w'→Q .normal a' w'):(Code.wp zaS.P (.block 0 (.loop (.seq (.region 9 (foO 9) (foD 9)) (.seq (.cond (.tmp 36) .skip (.exit 0)) (.seq (.block 1 (.seq (.region 10 (foO 10) (foD 10)) (.seq (.seq (.region 11 (foO 11) (foD 11)) (.cond (.tmp 42) (.exit 1) .skip)) (.seq (.region 12 (foO 12) (foD 12)) (.seq (.region 13 (foO 13) false) (.block 2 (.loop (.seq (.region 14 (foO 14) false) (.seq (.cond (.tmp 56) .skip (.exit 2)) (.block 3 (.seq (.region 15 (foO 15) false) (.region 16 (foO 16) (foD 16))))))))))))) (.region 17 (foO 17) (foD 17))))))) Q a w):=by
 have mono:∀ k,k≤100→(zce ds R k).length≤(zce ds R 100).length∧(suspTo ds k).length≤(suspTo ds 100).length:=fun k hk=>by
  induction hn:100 - k generalizing k with
  | zero =>
    have:k=100:=by omega
    subst this; exact ⟨zbL _,zbL _⟩
  | succ n ih=>have h1:=ih (k+1) (by omega) (by omega); rw [zmL,zls,zfj,zfj] at h1; omega
 have hfew:=g.few; have hfewS:=g.fewS; refine wp_block (wp_loop (fun a w=>∃ k gs,k≤100∧List.Perm gs (zce ds R k)∧NowP w0 S0 κ0 K zaS.fn.ntmps Y0 (stF b l ds R gs (suspTo ds k) k) a w) (fun a _=>100 - cnt a 35) ⟨0,[],zkD _,znj _,h⟩ ?_)
 rintro a w ⟨k,gs,hk,hp,hn⟩
 have hc0:cnt a 35=k:=by rw [hn.cnt (n:=(k:Int)) rfl]; simp
 have hup:∀ (a':Act) (w':World) (gs':List zbv),k < 100→List.Perm gs' (zce ds R (k+1))→NowP w0 S0 κ0 K zaS.fn.ntmps Y0 (stF b l ds R gs' (suspTo ds (k+1)) k) a' w'→(Code.region 17 (foO 17) (foD 17)).wp zaS.P (Exit.then (fun a' w'=>(∃ k gs,k≤100∧List.Perm gs (zce ds R k)∧NowP w0 S0 κ0 K zaS.fn.ntmps Y0 (stF b l ds R gs (suspTo ds k) k) a' w')∧100 - cnt a' 35 < 100 - cnt a 35) (Exit.inBlock 0 Q)) a' w':=fun a' w' gs' hk' hp' hn'=>by
  refine foStep Stable.none fo_r17 (f17 b l (deskL ds) R _ _ _) hn' (fun a6 w6 h6=>?_); rw [w6Q] at h6; refine ⟨⟨k+1,gs',hk',hp',by exact_mod_cast h6⟩,?_⟩; have:cnt a6 35=k+1:=by rw [h6.cnt (n:=(k:Int)+1) rfl]; omega
  omega
 refine wp_seq (foStep Stable.none fo_r9 (f9 b l (deskL ds) R _ _ _) hn (fun a2 w2 h2=>?_)); refine wp_seq (wp_cond (h2.bool (b:=decide ((k:Int) < 100)) rfl) ?_); by_cases hlt:k < 100
 · rw [decide_eq_true (by omega),if_pos rfl]; refine wp_skip ?_; have h3:=h2.trim Stable.none [4,9,10,34,35] [] (st':=stF b l ds R gs (suspTo ds k) k) (by cases b <;> kernel_rfl); have t:=f10 b l (deskL ds) R (List.map zbd gs) (List.map zag (suspTo ds k)) k; have hget:=zyK ds hlt; rw [cPQ,zan (show ((k:Int)) < 100 by omega)] at t; refine wp_seq (wp_block (wp_seq ?_))
   cases hd:ds k with
   | none =>
     rw [hd] at hget; rw [zqu (by simpa [nDp] using hget)] at t; refine foStep Stable.none fo_r10 t h3 (fun a4 w4 h4=>?_); refine wp_seq (wp_seq (foStep Stable.none fo_r11 (f11n b l (deskL ds) R _ _ _) h4 (fun a5 w5 h5=>?_))); refine wp_cond (h5.bool (b:=true) rfl) ?_; rw [if_pos rfl]; refine wp_exit ?_; have h6:=h5.trim Stable.none [4,9,10,34,35] [] (st':=stF b l ds R gs (suspTo ds k) k) (by cases b <;> kernel_rfl); refine hup a5 w5 gs hlt ?_ ?_
     · rw [zmL,hd]; simpa using hp
     · rw [zls,hd]; simpa using h6
   | some d =>
     rw [hd] at hget; rw [zyM (D:=ze7) (x:=d) (by simpa [nDp] using hget)] at t; refine foStep Stable.none fo_r10 t h3 (fun a4 w4 h4=>?_); refine wp_seq (wp_seq (foStep Stable.none fo_r11 (f11d b l (deskL ds) R _ _ _ d) h4 (fun a5 w5 h5=>?_))); refine wp_cond (h5.bool (b:=false) rfl) ?_; rw [iNs]; refine wp_skip ?_; have h6:=h5.trim Stable.none [4,9,10,11,12,34,35] [] (st':=⟨[fS4,fS9 R,fS10,fS11 k,fS12 d,fS34 ds,fS35 k],fM b gs (suspTo ds k) l⟩) (by cases b <;> kernel_rfl); have hm:=mono (k+1) (by omega); rw [zmL,zls,hd,zfj,zfj] at hm; simp only [zam] at hm; have t12:=f12 b l (deskL ds) R (List.map zbd gs) (List.map zag (suspTo ds k)) k d; rw [zan rfl,zan (by simp only [zam]; omega)] at t12; refine wp_seq (foStep Stable.none fo_r12 t12 h6 (fun a7 w7 h7=>?_))
     have e1:List.map zag (suspTo ds (k+1))=List.map zag (suspTo ds k)++List.map zag d.suspensions:=by rw [zls,hd]; simp
     have h8:NowP w0 S0 κ0 K zaS.fn.ntmps Y0 ⟨[fS4,fS9 R,fS10,fS11 k,fS12 d,fS34 ds,fS35 k],fM b gs (suspTo ds (k+1)) l⟩ a7 w7:=by unfold fM; rw [e1]; exact h7
     have hgl:gs.length=(zce ds R k).length:=hp.length_eq; refine fo_range (g.cCount k d hd) (by omega) h8 (fun xs a9 w9 hx h9=>?_); refine hup a9 w9 (gs++xs) hlt ?_ h9; rw [zmL,hd]; exact hp.append hx
 · rw [decide_eq_false (by omega),iNs]; have:k=100:=by omega
   subst this; exact wp_exit (hQ _ _ _ hp (h2.trim Stable.none [4,9,10,34,35] [] (by cases b <;> kernel_rfl)))
abbrev stZ (b:Bool) (l:List zab) (ds:Desks) (R:Reop):St:=⟨[fS4,(5,I 0)],[(4,⟨2,zav,[[.row 301 8 0 (List.map zbd (isort zb1 (zce ds R 100))).length,.row 302 12 0 (List.map zag (suspTo ds 100)).length]],true⟩),(301,⟨8,zaP,List.map zbd (isort zb1 (zce ds R 100)),false⟩),(302,⟨12,zas,List.map zag (suspTo ds 100),false⟩)]++frM b 1001 l⟩
theorem fo_body {b:Bool} {s:zaz} {l:List zab} {ds:Desks} {R:Reop} (g:FoLegs b s l ds R) (hl:(isort zb1 (zce ds R 100)).length=(zce ds R 100).length) (h:NowP w0 S0 κ0 K zaS.fn.ntmps Y0 ⟨[(0,.agg (zaq s)),fA b l],(frM b 1001 l)⟩ a w):foC.wp zaS.P (PostC w0 S0 κ0 K zaS.fn.ntmps .ret (stZ b l ds R)) a w:=by
 rw [fo_shape]; refine wp_seq (foStep Stable.none fo_r0 (f0 b s l) h (fun a1 w1 h1=>?_)); have t1:=f1 b s l; rw [g.cCheck,za4] at t1; refine wp_seq (wp_seq (foStep Stable.none fo_r1 t1 h1 (fun a2 w2 h2=>?_))); refine wp_cond (h2.bool (b:=false) rfl) ?_; rw [iNs]; refine wp_skip ?_; have h3:=h2.trim Stable.none [1,2,4] [] (st':=⟨[fA b l,fS2,fS4],[fB2 s,fB4]++frM b 1001 l⟩) (by cases b <;> kernel_rfl); have t3:=f3b b s l g.cCanon; refine wp_seq (foStep Stable.none fo_r3 t3 h3 (fun a4 w4 h4=>?_)); refine wp_seq (wp_seq (foStep Stable.none fo_r4 (f4 b s l (canonS l) 0) h4 (fun a5 w5 h5=>?_))); refine wp_cond (h5.bool (b:=false) rfl) ?_; rw [iNs]; refine wp_skip ?_; have h6:=h5.trim Stable.none [2,4,6] [] (st':=⟨[fS2,fS4,(6,.sl 9 (List.map zaa (canonS l)))],[fB2 s,fB4]++frM b 1001 l⟩) (by cases b <;> kernel_rfl); have t6:=f6 b s l (canonS l); rw [g.cWalk,zoc] at t6; refine wp_seq (foStep Stable.none fo_r6 t6 h6 (fun a7 w7 h7=>?_)); refine wp_seq (foStep Stable.none fo_r7 (f7 b l (deskL ds) R) h7 (fun a8 w8 h8=>?_)); refine wp_seq (wp_seq (foStep Stable.none fo_r8 (f8 b l (deskL ds) R [] []) h8 (fun a9 w9 h9=>?_))); refine fo_loop g h9 (fun gs a10 w10 hp h10=>?_); have h11:=h10.trim Stable.none [4,10] [] (st':=⟨[fS4,fS10],fM b gs (suspTo ds 100) l⟩) (by cases b <;> kernel_rfl); have t18:=f18 b l gs (List.map zag (suspTo ds 100)); rw [show List.length (List.map zbd gs)=(List.map zbd gs).length from rfl,g.cSort gs hp,zhZ] at t18; refine wp_seq (foStep Stable.none fo_r18 t18 h11 (fun a12 w12 h12=>?_))
 have hlen:(List.map zbd gs).length=(List.map zbd (isort zb1 (zce ds R 100))).length:=by rw [zam,zam,hp.length_eq,hl]
 rw [hlen] at h12; refine wp_seq (foStep Stable.none fo_r19 (f19 b l _ _) h12 (fun a13 w13 h13=>?_)); refine wp_ret ⟨rfl,?_⟩; obtain ⟨S,κ,hg,_⟩:=h13; exact ⟨S,κ,hg⟩
theorem zyP:enters zaS.P zbW=true:=by kernel_rfl
theorem fo_calls {b:Bool} {s:zaz} {l:List zab} {ds:Desks} {R:Reop} (g:FoLegs b s l ds R) (hl:(isort zb1 (zce ds R 100)).length=(zce ds R 100).length) (w:World) (S:Nat→Prop) (κ:Kap) (vals:Array Value) (hvl:vals.size=2) (hS:∀ g,S g→g < w.heap.size)
  (hv:∀ (k:Nat) (a:AV) (x:Value),[AV.agg (zaq s),frA b 1001 l][k]?=some a→vals[k]?=some x→VRel S κ (Dm (frM b 1001 l)) w a x)
  (hms:∀ d ent,Ab.look (frM b 1001 l) d=some ent→EntAt S κ (Dm (frM b 1001 l)) w (κ d) ent) (hinj:∀ d d' g c c',Dm (frM b 1001 l) d→Dm (frM b 1001 l) d'→κ d=some (g,c)→κ d'=some (g,c')→d=d'):Calls zaS.P zbW vals w (Ab.Left S κ (frM b 1001 l) (frM b 1001 l) (.tup [.agg (zbV ⟨isort zb1 (zce ds R 100),suspTo ds 100⟩),I 0]) w):=by
 have hf:zaS.P.funcs[zbW]?=some zaS.fn:=by kernel_rfl
 refine zod (args:=[AV.agg (zaq s),frA b 1001 l]) (frz:=false) (ex:=.ret) (st:=stZ b l ds R) hf fo_hb (show 2≤zaS.fn.ntmps by decide) hvl hS hv hms hinj (fun id=>by simp) (fun a hg=>?_) ?_ ?_ ?_
 · obtain ⟨S,κ,hg⟩:=hg; exact fo_body g hl ⟨S,κ,hg,trivial⟩
 · unfold stZ zbV; simp only; generalize List.map zbd (isort zb1 (zce ds R 100))=xs; generalize List.map zag (suspTo ds 100)=ys; rw [show zfu zaS.P false zaS.fn ⟨[fS4,(5,I 0)],[(4,⟨2,zav,[[.row 301 8 0 xs.length,.row 302 12 0 ys.length]],true⟩),(301,⟨8,zaP,xs,false⟩),(302,⟨12,zas,ys,false⟩)]++frM b 1001 l⟩=outOf false ([(4,⟨2,zav,[[.row 301 8 0 xs.length,.row 302 12 0 ys.length]],true⟩),(301,⟨8,zaP,xs,false⟩),(302,⟨12,zas,ys,false⟩)]++frM b 1001 l) (.tup [.agg [.row 301 8 0 xs.length,.row 302 12 0 ys.length],I 0]) from by cases b <;> kernel_rfl]; simp [outOf,snap,mapO,Ab.look]
 · cases b <;> kernel_rfl
 · cases b <;> kernel_rfl
end
end
def markEv (s:zaz) (i:Nat) (e:zab):Bool:=e.Kind == 0 && e.Stamp.Source.toNat == i && (fitS s e).isSome && (seedS s e.Script).isNone
theorem ztd (ds:Desks) (i:Nat) (d:zah):upd ds i d i=some d:=by simp [upd]
theorem zqD (ds:Desks) {i j:Nat} (d:zah) (h:j≠i):upd ds i d j=ds j:=by simp [upd,h]
theorem zBw (a:zaM) (d:zah):(reinS a d).marks=d.marks:=by unfold reinS; split <;> rfl
theorem zBv (a:zaM) (d:zah):(reinS a d).level=d.level:=by unfold reinS; split <;> rfl
theorem zuL (p:Int) (f:Bool) (g:zaM) (i:Nat) (m:zbj):(voidIf p f g i m).event=m.event:=by unfold voidIf; split <;> rfl
theorem zBA (id:Int) (a:zaM) (d:zah):(suspS id a d).marks.map (·.event)=d.marks.map (·.event):=by
 unfold suspS; simp only; apply zjU; intro j; rw [zcW,zcW,zjX]
 cases d.marks[j]? with
 | none=>rfl
 | some m=>simp [zuL]
theorem zBm (s:zaz) (p:zaG) (sd:GSeed) (e:zab) (d:zah):(noteS s p sd e d).marks.map (·.event)=d.marks.map (·.event):=by
 unfold noteS; split
 · rfl
 · simp only; split
   · rfl
   · split
     · rfl
     · split
       · rw [zBA]
       · split <;> rfl
theorem zBl (s:zaz) (p:zaG) (sd:GSeed) (e:zab) (d:zah):(noteS s p sd e d).level=d.level:=by
 unfold noteS; split
 · rfl
 · simp only; split
   · rfl
   · split
     · rfl
     · split
       · rfl
       · split <;> rfl
theorem evS_desk (s:zaz) (st:Desks×Reop) (e:zab) (i:Nat):(∀ d,st.1 i=some d→∃ d',(evS s st e).1 i=some d'∧d'.marks.map (·.event)=d.marks.map (·.event)++(if markEv s i e then [e] else [])∧d'.level=d.level)∧(st.1 i=none→(evS s st e).1 i=none):=by
 have same:(evS s st e).1 i=st.1 i→markEv s i e=false→(∀ d,st.1 i=some d→∃ d',(evS s st e).1 i=some d'∧d'.marks.map (·.event)=d.marks.map (·.event)++(if markEv s i e then [e] else [])∧d'.level=d.level)∧(st.1 i=none→(evS s st e).1 i=none):=fun h1 h2=>⟨fun d hd=>⟨d,by rw [h1,hd],by rw [h2]; simp,rfl⟩,fun hn=>by rw [h1,hn]⟩
 by_cases k1:e.Kind=1
 · have hm:markEv s i e=false:=by unfold markEv; simp [k1]
   cases hd:st.1 e.Marker.toNat with
   | none=>exact same (by unfold evS; rw [if_pos k1]; simp only [hd]) hm
   | some d =>
     have he:(evS s st e).1=upd st.1 e.Marker.toNat (reinS e.Stamp d):=by unfold evS; rw [if_pos k1]; simp only [hd]
     by_cases hi:i=e.Marker.toNat
     · subst hi; refine ⟨fun d' hd'=>⟨_,by rw [he,ztd],?_,?_⟩,fun hn=>by rw [hn] at hd; cases hd⟩
       · rw [hd] at hd'; injection hd' with hd'; subst hd'; rw [hm,zBw]; simp
       · rw [hd] at hd'; injection hd' with hd'; subst hd'; exact zBv _ _
     · exact same (by rw [he,zqD _ _ hi]) hm
 by_cases k2:e.Kind=2
 · have hm:markEv s i e=false:=by unfold markEv; simp [k2]
   exact same (by unfold evS; rw [if_neg k1,if_pos k2]) hm
 by_cases k0:e.Kind=0
 case neg =>
  have hm:markEv s i e=false:=by unfold markEv; simp [k0]
  exact same (by unfold evS; rw [if_neg k1,if_neg k2,if_neg k0]) hm
 cases hd:st.1 e.Stamp.Source.toNat with
 | none =>
   have he:(evS s st e).1=st.1:=by unfold evS; rw [if_neg k1,if_neg k2,if_pos k0]; simp only [hd]
   refine ⟨fun d hd'=>⟨d,by rw [he,hd'],?_,rfl⟩,fun hn=>by rw [he,hn]⟩
   have:markEv s i e=false:=by
    unfold markEv
    have:(e.Stamp.Source.toNat == i)=false:=by rw [beq_eq_false_iff_ne]; intro h; rw [h] at hd; rw [hd] at hd'; cases hd'
    simp [this]
   rw [this]; simp
 | some d =>
   cases hf:fitS s e with
   | none =>
     have he:(evS s st e).1=st.1:=by unfold evS; rw [if_neg k1,if_neg k2,if_pos k0]; simp only [hd,hf]
     exact same (by rw [he]) (by unfold markEv; simp [hf])
   | some q =>
     obtain ⟨x,p,y,h1,h2,h3,h4,h5,h6,h7,h8⟩:=fitS_at hf; have hp:s.Papers[q]?=some p:=(ziw h3).1
     cases hs:seedS s e.Script with
     | some sd =>
       have he:(evS s st e).1=upd st.1 e.Stamp.Source.toNat (noteS s p sd e d):=by unfold evS; rw [if_neg k1,if_neg k2,if_pos k0]; simp only [hd,hf,hs,hp]
       have hm:markEv s i e=false:=by unfold markEv; simp [hs]
       by_cases hi:i=e.Stamp.Source.toNat
       · subst hi; refine ⟨fun d' hd'=>⟨_,by rw [he,ztd],?_,?_⟩,fun hn=>by rw [hn] at hd; cases hd⟩
         · rw [hd] at hd'; injection hd' with hd'; subst hd'; rw [hm,zBm]; simp
         · rw [hd] at hd'; injection hd' with hd'; subst hd'; exact zBl _ _ _ _ _
       · exact same (by rw [he,zqD _ _ hi]) hm
     | none =>
       have he:(evS s st e).1=upd st.1 e.Stamp.Source.toNat { d with marks:=d.marks++[⟨e,d.watch.Suspended⟩] }:=by unfold evS; rw [if_neg k1,if_neg k2,if_pos k0]; simp only [hd,hf,hs]
       by_cases hi:i=e.Stamp.Source.toNat
       · subst hi; have hm:markEv s e.Stamp.Source.toNat e=true:=by unfold markEv; simp [k0,hf,hs]
         refine ⟨fun d' hd'=>⟨_,by rw [he,ztd],?_,?_⟩,fun hn=>by rw [hn] at hd; cases hd⟩
         · rw [hd] at hd'; injection hd' with hd'; subst hd'; rw [hm]; simp
         · rw [hd] at hd'; injection hd' with hd'; subst hd'; rfl
       · exact same (by rw [he,zqD _ _ hi]) (by unfold markEv; simp [show ¬ e.Stamp.Source.toNat=i from fun h=>hi h.symm])
theorem zzj (s:zaz):∀ (ev:List zab) (st:Desks×Reop) (i:Nat),(∀ d,st.1 i=some d→∃ d',(ev.foldl (evS s) st).1 i=some d'∧d'.marks.map (·.event)=d.marks.map (·.event)++ev.filter (markEv s i)∧d'.level=d.level)∧(st.1 i=none→(ev.foldl (evS s) st).1 i=none)
 | [],st,i=>⟨fun d hd=>⟨d,hd,by simp,rfl⟩,fun h=>h⟩
 | e :: r,st,i=>by obtain ⟨h1,h2⟩:=evS_desk s st e i; obtain ⟨h3,h4⟩:=zzj s r (evS s st e) i; refine ⟨fun d hd=>?_,fun hn=>h4 (h2 hn)⟩; obtain ⟨d',e1,e2,e3⟩:=h1 d hd; obtain ⟨d'',e4,e5,e6⟩:=h3 d' e1; refine ⟨d'',e4,?_,e6.trans e3⟩; rw [e5,e2,zge,zjZ]; split <;> simp
theorem zuG (ms:List za1) (i:Nat):∀ d,seats ms i=some d→∃ m∈ms,m.ID.toNat=i∧d=desk0 m.Level:=by
 have key:∀ (ms:List za1) (ds:Desks) d,(ms.foldl (fun ds m=>upd ds m.ID.toNat (desk0 m.Level)) ds) i=some d→ds i=some d∨∃ m∈ms,m.ID.toNat=i∧d=desk0 m.Level:=by
  intro ms
  induction ms with
  | nil=>intro ds d h; exact .inl h
  | cons m ms ih =>
    intro ds d h; rcases ih _ d h with h | ⟨m',h1,h2⟩
    · replace h:upd ds m.ID.toNat (desk0 m.Level) i=some d:=h; by_cases hi:i=m.ID.toNat
      · rw [hi,ztd] at h; injection h with h; exact .inr ⟨m,by simp,hi.symm,h.symm⟩
      · rw [zqD _ _ hi] at h; exact .inl h
    · exact .inr ⟨m',by simp [h1],h2⟩
 intro d h; rcases key ms (fun _=>none) d h with h | h
 · cases h
 · exact h
theorem walk_marks {s:zaz} {ev:List zab} {i:Nat} {d:zah} (h:(walkS s ev).1 i=some d):d.marks.map (·.event)=ev.filter (markEv s i):=by
 obtain ⟨h1,h2⟩:=zzj s ev (seats s.Markers,[]) i
 cases hs:seats s.Markers i with
 | none=>rw [show (walkS s ev).1 i=none from h2 hs] at h; cases h
 | some d0=>obtain ⟨d',e1,e2,_⟩:=h1 d0 hs; obtain ⟨m,_,_,hd0⟩:=zuG _ _ _ hs; rw [show (walkS s ev).1 i=some d' from e1] at h; injection h with h; subst h; rw [e2,hd0]; simp [desk0]
theorem filters_le {α:Type} (p:Nat→α→Bool) (hp:∀ x i j,p i x=true→p j x=true→i=j):∀ (n:Nat) (l:List α),((List.range n).map fun i=>(l.filter (p i)).length).sum≤l.length:=by
 intro n l
 induction l with
 | nil =>
   simp only [zsd,zpy]
   induction n with
   | zero=>simp
   | succ n ih=>rw [zpG,zjT,zpH]; simp; omega
 | cons x r ih =>
   have:((List.range n).map fun i=>((x :: r).filter (p i)).length).sum≤((List.range n).map fun i=>(r.filter (p i)).length).sum+1:=by
    have key:∀ n,((List.range n).map fun i=>((x :: r).filter (p i)).length).sum=((List.range n).map fun i=>(r.filter (p i)).length).sum+(if ∃ i,i < n∧p i x=true then 1 else 0):=by
     intro n
     induction n with
     | zero=>simp
     | succ n ihn =>
       rw [zpG,zjT,zjT,zpH,zpH,ihn]; simp only [zcu,zr8,List.sum_cons,List.sum_nil,zkA,zjZ]; by_cases hn:p n x=true
       · rw [if_pos hn,if_neg (fun ⟨i,h1,h2⟩=>by have:=hp x i n h2 hn; omega),if_pos ⟨n,by omega,hn⟩]; simp only [zfQ]; omega
       · rw [if_neg hn]; by_cases h:∃ i,i < n∧p i x=true
         · rw [if_pos h,if_pos (by obtain ⟨i,h1,h2⟩:=h; exact ⟨i,by omega,h2⟩)]; omega
         · rw [if_neg h,if_neg (fun ⟨i,h1,h2⟩=>by
            by_cases hi:i=n
            · rw [hi] at h2; exact hn h2
            · exact h ⟨i,by omega,h2⟩)]
           omega
    rw [key n]; split <;> omega
   simp only [zfQ]; omega
theorem zvG (d:zah) (R:Reop):∀ (l:List zbj) (m:Counts),(l.foldl (zf9 d R) m).length≤m.length+l.length
 | [],m=>by simp
 | x :: r,m=>by
   have h1:=zvG d R r (zf9 d R m x)
   have h2:(zf9 d R m x).length≤m.length+1:=by
    unfold zf9; split
    · omega
    · split
      · omega
      · exact zsX
   simp only [znm,zfQ]; omega
theorem zxu (d:zah) (R:Reop):(countS d R).length≤d.marks.length:=by have:=zvG d R d.marks []; simpa [countS] using this
theorem sum_flat {α:Type} (f:Nat→List α):∀ n,((List.range n).flatMap f).length=((List.range n).map fun i=>(f i).length).sum:=by intro n; rw [List.length_flatMap]
theorem sum_le_sum {f g:Nat→Nat} (h:∀ i,f i≤g i):∀ n,((List.range n).map f).sum≤((List.range n).map g).sum:=by
 intro n
 induction n with
 | zero=>simp
 | succ n ih=>rw [zpG,zjT,zjT,zpH,zpH]; have:=h n; simp; omega
theorem zq2 (s:zaz) (ev:List zab) (R:Reop) (n:Nat):(zce (walkS s ev).1 R n).length≤ev.length:=by
 unfold zce; rw [sum_flat]; refine zdJ (sum_le_sum (g:=fun i=>(ev.filter (markEv s i)).length) (fun i=>?_) n) (filters_le (markEv s) (fun x i j h1 h2=>?_) n ev)
 · cases hd:(walkS s ev).1 i with
   | none=>simp
   | some d=>simp only [zam]; have h1:=zxu d R; have h2:=congrArg List.length (walk_marks hd); simp only [zam] at h2; omega
 · unfold markEv at h1 h2; simp only [zbX,beq_iff_eq] at h1 h2; omega
def KeyedC (m:Counts):Prop:=(m.map (·.1)).Nodup∧∀ p∈m,p.1=⟨p.2.Script,p.2.Part⟩
theorem zAp (d:zah) (R:Reop):KeyedC (countS d R):=by
 have key:∀ (l:List zbj) (m:Counts),KeyedC m→KeyedC (l.foldl (zf9 d R) m):=by
  intro l
  induction l with
  | nil=>intro m h; exact h
  | cons x r ih =>
    intro m h; refine ih _ ?_; unfold zf9; split
    · exact h
    · split
      · exact h
      · refine ⟨(zuz h.1).1,fun p hp=>?_⟩; rcases zlV hp with rfl | hp
        · rfl
        · exact h.2 p hp
 exact key _ [] ⟨by simp,by simp⟩
theorem zvP {ds:Desks} {R:Reop} {n:Nat} {g:zbv}:g∈zce ds R n↔∃ i,i < n∧∃ d,ds i=some d∧∃ p∈countS d R,g=zcb i d p.2:=by
 unfold zce; rw [zcq]; constructor
 · rintro ⟨i,hi,hg⟩
   cases hd:ds i with
   | none=>rw [hd] at hg; cases hg
   | some d=>rw [hd] at hg; obtain ⟨p,hp,rfl⟩:=zbA.1 hg; exact ⟨i,zic.1 hi,d,hd,p,hp,rfl⟩
 · rintro ⟨i,hi,d,hd,p,hp,rfl⟩
   refine ⟨i,zic.2 hi,?_⟩; rw [hd]; exact zbA.2 ⟨p,hp,rfl⟩
theorem zyU {ds:Desks} {R:Reop} {n:Nat} {a b:zbv} (ha:a∈zce ds R n) (hb:b∈zce ds R n) (h1:a.Script=b.Script) (h2:a.Part=b.Part) (h3:a.Marker=b.Marker):a=b:=by
 obtain ⟨i,hi,d,hd,p,hp,rfl⟩:=zvP.1 ha; obtain ⟨j,hj,f,hf,q,hq,rfl⟩:=zvP.1 hb; unfold zcb at h1 h2 h3; simp only at h1 h2 h3; have:i=j:=by omega
 subst this; rw [hd] at hf; injection hf with hf; subst hf; obtain ⟨k1,k2⟩:=zAp d R; have e:p.1=q.1:=by rw [k2 p hp,k2 q hq,h1,h2]
 have:p=q:=by
  have:∀ {l:Counts},(l.map (·.1)).Nodup→p∈l→q∈l→p=q:=by
   intro l
   induction l with
   | nil=>intro _ h; cases h
   | cons x r ih =>
     intro hn h1 h2; obtain ⟨n1,n2⟩:=zfP.1 hn; rcases za7.1 h1 with e1 | h1
     · rcases za7.1 h2 with e2 | h2
       · rw [e1,e2]
       · exact absurd (zbA.2 ⟨q,h2,by rw [← e,e1]⟩) n1
     · rcases za7.1 h2 with e2 | h2
       · exact absurd (zbA.2 ⟨p,h1,by rw [e,e2]⟩) n1
       · exact ih n2 h1 h2
  exact this k1 hp hq
 rw [this]
set_option maxRecDepth 10000
theorem ev_inj {l l':List zab} (h:List.map zaa l=List.map zaa l'):l=l':=Eq.mp (TyD.minj zaw) h
theorem canon_ok:CallOK zP (single zbl zOrc):=by
 intro f args ms r ms' h; unfold single at h; split at h
 case isFalse=>cases h
 rename_i hf; subst hf
 cases ms with
 | nil =>
   have hz:zOrc zbl args []=zrS args:=by unfold zOrc; simp (decide:=true) only [if_false,if_true]
   rw [hz] at h; clear hz; unfold zrS at h; split at h
   case isFalse=>cases h
   rename_i hex; have hsp:=hex.choose_spec; generalize hex.choose=l at h hsp; obtain ⟨rfl,hl⟩:=hsp; injection h with h; injection h with h1 h2; subst h1 h2; refine ⟨zyI,fun w S κ vals hvl hS hv hms hinj=>?_⟩; exact cn_calls (cnLegs false hl) w S κ vals hvl hS hv hms hinj
 | cons a m =>
   have hz:zOrc zbl args (a :: m)=oCanon args (a :: m):=by unfold zOrc; simp (decide:=true) only [if_false,if_true]
   rw [hz] at h; clear hz; unfold oCanon at h; split at h
   case isFalse=>cases h
   rename_i hex; have hsp:=hex.choose_spec; generalize hex.choose=l at h hsp; obtain ⟨⟨ha,hm⟩,hl⟩:=hsp; subst ha; rw [hm] at h ⊢; injection h with h; injection h with h1 h2; subst h1 h2; refine ⟨zyI,fun w S κ vals hvl hS hv hms hinj=>?_⟩; exact cn_calls (cnLegs true hl) w S κ vals hvl hS hv hms hinj
theorem c_canon (b:Bool) {l:List zab} (h:FewEv l):cw zbl [frA b 1000 l] (frM b 1000 l)=some (bif b then zdI ((canonS l,0),l) else zcJ (canonS l,0)):=by
 cases b with
 | true =>
   refine znM canon_ok ?_; show zOrc zbl [(lentEv 1000 l).1] (lentEv 1000 l).2=_
   have hz:zOrc zbl [(lentEv 1000 l).1] (lentEv 1000 l).2=oCanon [(lentEv 1000 l).1] (lentEv 1000 l).2:=by unfold zOrc; simp (decide:=true) only [if_false,if_true]; rfl
   rw [hz]; unfold oCanon; have hex:∃ l',([(lentEv 1000 l).1]=[(lentEv 1000 l').1]∧(lentEv 1000 l).2=(lentEv 1000 l').2)∧FewEv l':=⟨l,⟨rfl,rfl⟩,h⟩
   rw [dif_pos hex]; have hsp:=hex.choose_spec; generalize hex.choose=l' at hsp
   have:l=l':=by have h2:=hsp.1.2; unfold lentEv at h2; simp only [zbm,zaH,Ent.mk.injEq,true_and,and_true] at h2; exact ev_inj h2
   subst this; rfl
 | false =>
   refine znM canon_ok ?_; show zOrc zbl [.sl 9 (List.map zaa l)] []=_
   have hz:zOrc zbl [.sl 9 (List.map zaa l)] []=zrS [.sl 9 (List.map zaa l)]:=by unfold zOrc; simp (decide:=true) only [if_false,if_true]
   rw [hz]; unfold zrS; have hex:∃ l',[AV.sl 9 (List.map zaa l)]=[AV.sl 9 (List.map zaa l')]∧FewEv l':=⟨l,rfl,h⟩
   rw [dif_pos hex]; have hsp:=hex.choose_spec; generalize hex.choose=l' at hsp
   have:l=l':=by have h2:=hsp.1; simp only [zbm,AV.sl.injEq,true_and,and_true] at h2; exact ev_inj h2
   subst this; rfl
theorem c_walk {s:zaz} {ev:List zab} (h:OkRun s ev):cw zcN [.agg (zaq s),.sl 9 (List.map zaa ev)] []=some (zhT (deskL (walkS s ev).1,(walkS s ev).2)):=by
 refine znM (walk_ok ci_ok cb_ok) ?_; show zOrc zcN [.agg (zaq s),.sl 9 (List.map zaa ev)] []=_
 have hz:zOrc zcN [.agg (zaq s),.sl 9 (List.map zaa ev)] []=oWalk [.agg (zaq s),.sl 9 (List.map zaa ev)]:=by unfold zOrc; simp (decide:=true) only [if_false,if_true]
 rw [hz]; unfold oWalk; have hex:∃ s' ev',[AV.agg (zaq s),AV.sl 9 (List.map zaa ev)]=[.agg (zaq s'),.sl 9 (List.map zaa ev')]∧OkRun s' ev':=⟨s,ev,rfl,h⟩
 rw [dif_pos hex]; have hsp:=hex.choose_spec.choose_spec; generalize hex.choose_spec.choose=ev' at hsp; generalize hex.choose=s' at hsp; obtain ⟨h1,_⟩:=hsp; simp only [zbm,AV.agg.injEq,AV.sl.injEq,true_and,and_true] at h1; obtain ⟨h1,h2⟩:=h1; have e1:s=s':=zgL.inj h1; have e2:ev=ev':=ev_inj h2; subst e1 e2; rfl
theorem zAf (R:Reop) (e:zab):cw zim [.mp (List.map zal R),.agg (zaa e)] []=some (zai (reopB R e)):=by
 refine zsF R e ?_; have last:zdw R e 2=some (zai false):=zhv _ _ _ (by rw [zaO (by omega)]; rfl)
 have one:zdw R e 1=some (zai (match mfind ⟨e.Script,-1⟩ R with | some a=>lessS e.Stamp a | none=>false)):=by
  refine zhv _ _ _ ?_; rw [zaD (by omega),cPQ,show [zaW.enc e.Part,zaW.enc (-1)]=List.map zaj [e.Part,-1] from rfl,zcy]; simp only [show (1:Int).toNat=1 from rfl,znn,zeB,zaX]; rw [zhx,w6Q,show (1:Int)+1=2 from rfl,last]
  cases mfind ⟨e.Script,-1⟩ R with
  | none=>rfl
  | some a=>simp only [zie,zaF,zfi]; rw [zrA,za4,zpS]; cases lessS e.Stamp a <;> rfl
 refine zhv _ _ _ ?_; rw [zaD (by omega),cPQ,show [zaW.enc e.Part,zaW.enc (-1)]=List.map zaj [e.Part,-1] from rfl,zcy]; simp only [show (0:Int).toNat=0 from rfl,zeB,zaX]; rw [zhx,w6Q,show (0:Int)+1=1 from rfl,one]; unfold reopB
 cases mfind ⟨e.Script,e.Part⟩ R with
 | none=>rw [zrp]; rfl
 | some a =>
   simp only [zie,zaF,zfi]; rw [zrA,za4,zpS]
   cases lessS e.Stamp a with
   | true=>rfl
   | false=>rw [zrp]; rfl
theorem zxl (d:zah) (R:Reop) (hl:d.marks.length≤1000000):cw zdh [.fp (zc1 d),.mp (List.map zal R)] []=some (zcL (countS d R)):=by
 refine zqh d R ?_
 have key:∀ (n i:Nat) (m:Counts),i+n=d.marks.length→zci d R (List.map zbC m) i=some (zcL ((d.marks.drop i).foldl (zf9 d R) m)):=by
  intro n
  induction n with
  | zero=>intro i m hi; refine zjI _ _ _ _ ?_; rw [zam,zaO (by omega),zgi (by omega)]; rfl
  | succ n ih =>
    intro i m hi; have hlt:i < d.marks.length:=by omega
    refine zjI _ _ _ _ ?_; rw [zam,zaD (by omega),cPQ,za2,zgS,zaB hlt,zaX,w6Q,show ((i:Int)+1)=((i+1:Nat):Int) by omega,zc3 hlt,znm]
    have put:msetD zP 117 64 (.agg (zcP.enc ⟨d.marks[i].event.Script,d.marks[i].event.Part⟩)) (.agg (zaa d.marks[i].event)) (List.map zbC m) (fun m4=>zci d R m4 ((i+1:Nat):Int)) =
      some (zcL ((d.marks.drop (i+1)).foldl (zf9 d R) (mput ⟨d.marks[i].event.Script,d.marks[i].event.Part⟩ d.marks[i].event m))):=by
     rw [show (AV.agg (zcP.enc ⟨d.marks[i].event.Script,d.marks[i].event.Part⟩))=.agg (zbe ⟨d.marks[i].event.Script,d.marks[i].event.Part⟩) from rfl,zlr]; exact ih (i+1) _ (by omega)
    unfold zf9
    cases hv:d.marks[i].void with
    | true=>rw [zaF,if_pos rfl]; exact ih (i+1) m (by omega)
    | false =>
      rw [zat,iNs,zaY]; by_cases hlv:d.level < 2
      · rw [if_pos hlv,zAf,zao]
        cases hr:reopB R d.marks[i].event with
        | true=>rw [zaF,if_pos ⟨hlv,rfl⟩]; exact ih (i+1) m (by omega)
        | false=>rw [zat,iNs]; exact put
      · rw [if_neg hlv,if_neg (fun h=>hlv h.1)]; exact put
 exact key d.marks.length 0 [] (by omega)
theorem zyk (a b:zbv):∃ v:Int,cw zep [.agg (zbd a),.agg (zbd b)] []=some (zbh v)∧decide (v < 0)=zb1 a b:=by
 refine ⟨zjc [cmpI a.Script b.Script,cmpI a.Part b.Part,cmpI a.Marker b.Marker],zqU a b ?_,?_⟩
 · rw [c_cmp,za4,c_cmp,za4,c_cmp,za4,c_Or _ (by simp),za4]; rfl
 · unfold cmpI zb1; simp only [zjc]
   repeat' split
   all_goals first | omega | (simp_all; done) | (simp_all; omega) | (simp; omega)
theorem ztm {a b:zbv} (h:zb1 a b=true):zb1 b a=false:=by
 unfold zb1 at h ⊢
 grind
theorem znI {a b c:zbv} (h1:zb1 b a=false) (h2:zb1 c b=false):zb1 c a=false:=by
 unfold zb1 at h1 h2 ⊢
 grind
theorem zxO {a b:zbv} (h1:zb1 a b=false) (h2:zb1 b a=false):a.Script=b.Script∧a.Part=b.Part∧a.Marker=b.Marker:=by
 unfold zb1 at h1 h2
 grind
theorem swoG:Go.Sort.SWO zb1 where
 irrefl:=fun x=>by unfold zb1; simp
 trans:=fun x y z h1 h2=>by unfold zb1 at h1 h2 ⊢; grind
 ntrans:=fun x y z h1 h2=>znI h2 h1
theorem cmpG:SX.Cmp (S:=sgG) zb1 (fun _=>True) where
 ans:=fun x y _ _=>zyk x y
theorem okRun {s:zaz} (hs:zds s) {l:List zab} (h:FewEv l):OkRun s (canonS l):=
 ⟨hs,fun e he=>(keep_mem ((zdl l).mem_iff.1 he)).1,by have:=(zdl l).length_eq; have:=h.2.1; omega⟩
theorem desk_ok {s:zaz} (hs:zds s):∀ (ev:List zab) {i:Nat} {d:zah},(walkS s ev).1 i=some d→DeskOk s.Monitor ev.length d:=by
 have key:∀ (ev:List zab) (k:Nat) (st:Desks×Reop),(∀ i d,st.1 i=some d→DeskOk s.Monitor k d)→∀ i d,(ev.foldl (evS s) st).1 i=some d→DeskOk s.Monitor (k+ev.length) d:=by
  intro ev
  induction ev with
  | nil=>intro k st h; exact h
  | cons e r ih =>
    intro k st h i d hd; have:=ih (k+1) (evS s st e) ?_ i d hd
    · rw [zfQ,show k+(r.length+1)=k+1+r.length by omega]; exact this
    · intro j f hj; have up:∀ x,(∀ g,st.1 x=some g→DeskOk s.Monitor (k+1) g):=fun x g hg=>(h x g hg).up
      unfold evS at hj; split at hj
      · split at hj
        · rename_i d0 hd0; unfold upd at hj; simp only at hj; split at hj
          · injection hj with hj; rw [← hj]; exact (h _ _ hd0).rein hs.monitor _
          · exact up _ _ hj
        · exact up _ _ hj
      · split at hj
        · exact up _ _ hj
        · split at hj
          · split at hj
            · rename_i d0 q hd0 _; split at hj
              · unfold upd at hj; simp only at hj; split at hj
                · injection hj with hj; rw [← hj]; exact (h _ _ hd0).note rfl _ _ _
                · exact up _ _ hj
              · unfold upd at hj; simp only at hj; split at hj
                · injection hj with hj; rw [← hj]; exact (h _ _ hd0).app _
                · exact up _ _ hj
              · exact up _ _ hj
            · exact up _ _ hj
          · exact up _ _ hj
 intro ev i d hd
 have:=key ev 0 (seats s.Markers,[]) (fun i d h=>by
  obtain ⟨m,_,_,rfl⟩:=zuG _ _ _ h
  exact DeskOk.zero hs.monitor _) i d hd
 simpa using this
theorem zx6 {s:zaz} (hs:zds s) (ev:List zab):∀ n,(suspTo (walkS s ev).1 n).length≤n*ev.length:=by
 intro n
 induction n with
 | zero=>simp [suspTo]
 | succ n ih =>
   rw [zls,zfj,zpg]
   cases hd:(walkS s ev).1 n with
   | none=>simp; omega
   | some d=>have:=(desk_ok hs ev hd).susp; simp; omega
theorem foLegs (b:Bool) {s:zaz} (hs:zds s) {l:List zab} (h:FewEv l):FoLegs b s l (walkS s (canonS l)).1 (walkS s (canonS l)).2 where
 cCheck:=zqr hs
 cCanon:=c_canon b h
 cWalk:=c_walk (okRun hs h)
 cCount:=fun i d hd=>zxl d _ (by
  have h1:=(desk_ok hs _ hd).marks; have h2:=(okRun hs h).2.2
  omega)
 cSort:=fun gs hp=>by
  have h1:=zq2 s (canonS l) (walkS s (canonS l)).2 100; have h2:=(zdl l).length_eq; have h3:=h.2.1; have h4:=hp.length_eq; have hgl:gs.length < 256:=by omega
  obtain ⟨l',e1,e2,e3⟩:=SX.c_SortFunc (S:=sgG) cmpG swoG gs (fun _ _=>trivial) hgl
  have:l'=isort zb1 (zce (walkS s (canonS l)).1 (walkS s (canonS l)).2 100):=
   zlE (lt:=zb1) ((e2.trans hp).trans (zfA _).symm) e3 (zmO (lt:=zb1) (fun _ _ _ h1 h2=>znI h1 h2) (fun _ _ h=>ztm h) _) (fun a ha b hb h1 h2=>by
    have q:=zxO h1 h2
    exact zyU ((e2.trans hp).mem_iff.1 ha) ((e2.trans hp).mem_iff.1 hb) q.1 q.2.1 q.2.2)
  rw [this] at e1; exact e1
 few:=by have h1:=zq2 s (canonS l) (walkS s (canonS l)).2 100; have h2:=(zdl l).length_eq; have h3:=h.2.1; omega
 fewS:=by have h1:=zx6 hs (canonS l) 100; have h2:=(zdl l).length_eq; have h3:=h.2.1; omega
theorem fold_eq (s:zaz) (l:List zab):foldS s l=⟨isort zb1 (zce (walkS s (canonS l)).1 (walkS s (canonS l)).2 100),suspTo (walkS s (canonS l)).1 100⟩:=rfl
theorem fold_ok:CallOK zP (single zbW zOrc):=by
 intro f args ms r ms' h; unfold single at h; split at h
 case isFalse=>cases h
 rename_i hf; subst hf
 cases ms with
 | nil =>
   have hz:zOrc zbW args []=oFoldD args:=by unfold zOrc; simp (decide:=true) only [if_false,if_true]
   rw [hz] at h; clear hz; unfold oFoldD at h; split at h
   case isFalse=>cases h
   rename_i hex; have hsp:=hex.choose_spec.choose_spec; generalize hex.choose_spec.choose=l at h hsp; generalize hex.choose=s at h hsp; obtain ⟨rfl,hs,hl⟩:=hsp; injection h with h; injection h with h1 h2; subst h1 h2; refine ⟨zyP,fun w S κ vals hvl hS hv hms hinj=>?_⟩; exact fo_calls (foLegs false hs hl) (zfA _).length_eq w S κ vals hvl hS hv hms hinj
 | cons a m =>
   have hz:zOrc zbW args (a :: m)=oFold args (a :: m):=by unfold zOrc; simp (decide:=true) only [if_false,if_true]
   rw [hz] at h; clear hz; unfold oFold at h; split at h
   case isFalse=>cases h
   rename_i hex; have hsp:=hex.choose_spec.choose_spec; generalize hex.choose_spec.choose=l at h hsp; generalize hex.choose=s at h hsp; obtain ⟨⟨ha,hm⟩,hs,hl⟩:=hsp; subst ha; rw [hm] at h ⊢; injection h with h; injection h with h1 h2; subst h1 h2; refine ⟨zyP,fun w S κ vals hvl hS hv hms hinj=>?_⟩; exact fo_calls (foLegs true hs hl) (zfA _).length_eq w S κ vals hvl hS hv hms hinj
theorem c_fold {s:zaz} (hs:zds s) {l:List zab} (h:FewEv l):cw zbW [.agg (zaq s),.row 1001 9 0 (List.map zaa l).length] [(1001,⟨9,zac,List.map zaa l,false⟩)]=some (znP ((foldS s l,0),l)):=by
 refine znM fold_ok ?_; show zOrc zbW [.agg (zaq s),(lentEv 1001 l).1] (lentEv 1001 l).2=_
 have hz:zOrc zbW [.agg (zaq s),(lentEv 1001 l).1] (lentEv 1001 l).2=oFold [.agg (zaq s),(lentEv 1001 l).1] (lentEv 1001 l).2:=by unfold zOrc; simp (decide:=true) only [if_false,if_true]; rfl
 rw [hz]; unfold oFold; have hex:∃ s' l',([.agg (zaq s),(lentEv 1001 l).1]=[.agg (zaq s'),(lentEv 1001 l').1]∧(lentEv 1001 l).2=(lentEv 1001 l').2)∧zds s'∧FewEv l':=⟨s,l,⟨rfl,rfl⟩,hs,h⟩
 rw [dif_pos hex]; have hsp:=hex.choose_spec.choose_spec; generalize hex.choose_spec.choose=l' at hsp; generalize hex.choose=s' at hsp; obtain ⟨⟨h1,h2⟩,_⟩:=hsp
 have e2:l=l':=by unfold lentEv at h2; simp only [zbm,zaH,Ent.mk.injEq,true_and,and_true] at h2; exact ev_inj h2
 simp only [zbm,AV.agg.injEq] at h1; have e1:s=s':=zgL.inj h1.1; subst e1 e2; rfl
theorem c_fold_d {s:zaz} (hs:zds s) {l:List zab} (h:FewEv l):cw zbW [.agg (zaq s),.sl 9 (List.map zaa l)] []=some (zlZ (foldS s l,0)):=by
 refine znM fold_ok ?_; show zOrc zbW [.agg (zaq s),.sl 9 (List.map zaa l)] []=_
 have hz:zOrc zbW [.agg (zaq s),.sl 9 (List.map zaa l)] []=oFoldD [.agg (zaq s),.sl 9 (List.map zaa l)]:=by unfold zOrc; simp (decide:=true) only [if_false,if_true]
 rw [hz]; unfold oFoldD; have hex:∃ s' l',[.agg (zaq s),AV.sl 9 (List.map zaa l)]=[.agg (zaq s'),AV.sl 9 (List.map zaa l')]∧zds s'∧FewEv l':=⟨s,l,rfl,hs,h⟩
 rw [dif_pos hex]; have hsp:=hex.choose_spec.choose_spec; generalize hex.choose_spec.choose=l' at hsp; generalize hex.choose=s' at hsp; obtain ⟨h1,_⟩:=hsp; simp only [zbm,AV.agg.injEq,AV.sl.injEq,true_and,and_true] at h1; have e1:s=s':=zgL.inj h1.1; have e2:l=l':=ev_inj h1.2; subst e1 e2; rfl
end Go.Proofs.YtikogkgdkdmljaaGreat
end
