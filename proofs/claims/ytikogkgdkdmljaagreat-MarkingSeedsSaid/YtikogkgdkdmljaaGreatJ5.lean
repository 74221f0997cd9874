/- What the log keeps depends on the set of events alone; the reference keeps the same. -/
import Derived.Test.YtikogkgdkdmljaaGreatJ4
import Derived.Test.YtikogkgdkdmljaaGreatAb9
import Derived.OpenShut
import Derived.DataElems
import Derived.ChangeArms
set_option linter.unusedSimpArgs false
set_option linter.unusedVariables false
noncomputable section
namespace Go.Proofs.YtikogkgdkdmljaaGreat
open Go.Ab
set_option maxRecDepth 10000
abbrev idE (e:zab):Int×Int:=(e.Stamp.Source,e.Stamp.Seq)
theorem zdN {κ ν:Type} [DecidableEq κ] (k:κ) (v:ν):∀ l:List (κ×ν),mfind k (mput k v l)=some v
 | []=>by simp [mput,mfind]
 | p :: r=>by
   unfold mput; split
   · simp [mfind]
   · rename_i h; unfold mfind; rw [if_neg h]; exact zdN k v r
theorem zdV {κ ν:Type} [DecidableEq κ] {k j:κ} (v:ν) (h:j≠k):∀ l:List (κ×ν),mfind j (mput k v l)=mfind j l
 | []=>by simp [mput,mfind,Ne.symm h]
 | p :: r=>by
   unfold mput; split
   · rename_i hp; simp only [mfind]; rw [if_neg (Ne.symm h),if_neg (fun e=>h (by rw [← e,hp]))]
   · simp only [mfind]; rw [zdV v h r]
theorem zne {κ ν:Type} [DecidableEq κ]:∀ {l:List (κ×ν)} {p:κ×ν},(l.map (·.1)).Nodup→p∈l→mfind p.1 l=some p.2
 | [],_,_,h=>by cases h
 | x :: r,p,hn,h=>by
   obtain ⟨n1,n2⟩:=zf1.1 hn; unfold mfind; rcases za6.1 h with e | h
   · rw [e,if_pos rfl]
   · rw [if_neg (fun e=>n1 (zbB.2 ⟨p,h,e.symm⟩))]; exact zne n2 h
def Said (l:List zab) (i:Nat) (m:zcQ):Prop:=∀ k,match mfind k m with
 | none=>∀ j e,j < i→l[j]?=some e→eventB e=true→idE e≠k
 | some g=>g.disputed=true↔∃ j e,j < i∧l[j]?=some e∧eventB e=true∧idE e=k∧l[g.first.toNat]?≠some e
theorem zzA {l:List zab} {m:zcQ} {i:Nat} {e:zab} (h:Said l i m) (he:l[i]?=some e):Said l (i+1) (zdD l m i e):=by
 intro k; have hk:=h k; unfold zdD; by_cases hv:eventB e=true
 case neg =>
  rw [if_neg hv]
  cases hf:mfind k m with
  | none =>
    rw [hf] at hk; intro j f hj hjf hvf; by_cases hji:j=i
    · subst hji; rw [he] at hjf; injection hjf with hjf; subst hjf; exact absurd hvf hv
    · exact hk j f (by omega) hjf hvf
  | some g =>
    rw [hf] at hk; refine hk.trans ⟨fun ⟨j,f,h1,h2⟩=>⟨j,f,by omega,h2⟩,fun ⟨j,f,h1,h2,h3,h4⟩=>⟨j,f,?_,h2,h3,h4⟩⟩; by_cases hji:j=i
    · subst hji; rw [he] at h2; injection h2 with h2; subst h2; exact absurd h3 hv
    · omega
 rw [if_pos hv]; by_cases hke:k=idE e
 · subst hke
   cases hf:mfind (idE e) m with
   | none =>
     simp only; rw [show (e.Stamp.Source,e.Stamp.Seq)=idE e from rfl,zdN]; rw [hf] at hk; simp only [zcp,false_iff]
     rintro ⟨j,f,h1,h2,h3,h4,h5⟩
     by_cases hji:j=i
     · subst hji; exact h5 (by rw [show ((j:Int)).toNat=j from rfl]; exact h2)
     · exact hk j f (by omega) h2 h3 h4
   | some g =>
     simp only; rw [show (e.Stamp.Source,e.Stamp.Seq)=idE e from rfl,zdN]; rw [hf] at hk; simp only; by_cases hs:l[g.first.toNat]?=some e
     · rw [if_pos hs]; refine hk.trans ⟨fun ⟨j,f,h1,h2⟩=>⟨j,f,by omega,h2⟩,fun ⟨j,f,h1,h2,h3,h4,h5⟩=>⟨j,f,?_,h2,h3,h4,h5⟩⟩; by_cases hji:j=i
       · subst hji; rw [he] at h2; exact absurd (hs.trans h2) h5
       · omega
     · rw [if_neg hs]; exact ⟨fun _=>⟨i,e,by omega,he,hv,rfl,hs⟩,fun _=>rfl⟩
 · have other:∀ v:za4,mfind k (mput (e.Stamp.Source,e.Stamp.Seq) v m)=mfind k m:=fun v=>zdV v hke m
   have goal:∀ m':zcQ,mfind k m'=mfind k m→(match mfind k m' with
     | none=>∀ j e,j < i+1→l[j]?=some e→eventB e=true→idE e≠k
     | some g=>g.disputed=true↔∃ j e,j < i+1∧l[j]?=some e∧eventB e=true∧idE e=k∧l[g.first.toNat]?≠some e):=by
    intro m' hm; rw [hm]
    cases hf:mfind k m with
    | none =>
      rw [hf] at hk; intro j f hj hjf hvf; by_cases hji:j=i
      · subst hji; rw [he] at hjf; injection hjf with hjf; subst hjf; exact fun h=>hke h.symm
      · exact hk j f (by omega) hjf hvf
    | some g =>
      rw [hf] at hk; refine hk.trans ⟨fun ⟨j,f,h1,h2⟩=>⟨j,f,by omega,h2⟩,fun ⟨j,f,h1,h2,h3,h4⟩=>⟨j,f,?_,h2,h3,h4⟩⟩; by_cases hji:j=i
      · subst hji; rw [he] at h2; injection h2 with h2; subst h2; exact absurd h4.1.symm hke
      · omega
   cases mfind (e.Stamp.Source,e.Stamp.Seq) m with
   | none=>exact goal _ (other _)
   | some g=>exact goal _ (other _)
theorem zrd {l:List zab}:∀ {r:List zab} {i:Nat} {m:zcQ},Said l i m→l.drop i=r→Said l (i+r.length) (zcI l r i m)
 | [],i,m,h,_=>h
 | e :: r,i,m,h,hd=>by
   unfold zcI
   have he:l[i]?=some e:=by have:=congrArg (·[0]?) hd; simpa using this
   have:=zrd (zzA h he) (r:=r) (by
    have:=congrArg (List.drop 1) hd
    simpa [List.drop_drop] using this)
   rw [zf2,show i+(r.length+1)=i+1+r.length by omega]; exact this
theorem zCu (l:List zab):Said l l.length (zbO l):=by have:=zrd (l:=l) (r:=l) (i:=0) (m:=[]) (fun k=>by simp [mfind]) rfl; rw [zbL] at this; exact this
def Stays (l:List zab) (e:zab):Prop:=e∈l∧eventB e=true∧∀ f∈l,eventB f=true→idE f=idE e→f=e
theorem ztG {l:List zab} {e:zab}:e∈keepS l↔Stays l e:=by
 have hK:=znb l; have hS:=zCu l; constructor
 · intro h; obtain ⟨p,hp,hpe⟩:=zpX.1 (show e∈(zbO l).filterMap (pickG l) from h); obtain ⟨e',h1,h2,h3⟩:=hK.2 p hp; unfold pickG at hpe; split at hpe
   · cases hpe
   rename_i hd; rw [h1] at hpe; injection hpe with hpe; subst hpe; refine ⟨zbN h1,h3,fun f hf hvf hid=>?_⟩; have:=hS p.1; rw [zne hK.1 hp] at this; simp only at this; obtain ⟨j,hj,hjf⟩:=zl6.1 hf; by_cases hfe:l[p.2.first.toNat]?=some f
   · rw [h1] at hfe; injection hfe with hfe; exact hfe.symm
   · exact absurd (this.2 ⟨j,f,hj,by rw [zaz hj,hjf],hvf,by rw [hid]; exact h2,hfe⟩) hd
 · rintro ⟨h1,h2,h3⟩
   obtain ⟨j,hj,hje⟩:=zl6.1 h1; have hje':l[j]?=some e:=by rw [zaz hj,hje]
   have:=hS (idE e)
   cases hf:mfind (idE e) (zbO l) with
   | none=>rw [hf] at this; exact absurd rfl (this j e hj hje' h2)
   | some g =>
     rw [hf] at this; simp only at this; have hp:=zhn hf; obtain ⟨e',q1,q2,q3⟩:=hK.2 _ hp; have he':e'=e:=h3 e' (zbN q1) q3 q2; subst he'; show e'∈(zbO l).filterMap (pickG l); refine zpX.2 ⟨_,hp,?_⟩; unfold pickG; rw [if_neg]
     · exact q1
     · intro hd; obtain ⟨i,f,r1,r2,r3,r4,r5⟩:=this.1 hd; have:=h3 f (zbN r2) r3 r4; subst this; exact r5 q1
theorem znc (l:List zab):(keepS l).Nodup:=by refine List.Pairwise.imp ?_ (keep_ids l); intro a b h e; exact h (by rw [e])
theorem canon_same {l r:List zab} (h:∀ e,Stays l e↔Stays r e):canonS l=canonS r:=by have hp:List.Perm (keepS l) (keepS r):=(znN (znc l) (znc r)).2 (fun e=>by rw [ztG,ztG]; exact h e); exact ztn ((zdJ l).trans hp) (zqt l)
theorem zmB {l:List zab} {e:zab}:e∈canonS l↔Stays l e:=by rw [(zdJ l).mem_iff,ztG]
theorem canon_inj {l:List zab} {a b:zab} (ha:a∈canonS l) (hb:b∈canonS l) (h:idE a=idE b):a=b:=by obtain ⟨_,_,h3⟩:=zmB.1 hb; obtain ⟨h1,h2,_⟩:=zmB.1 ha; exact h3 a h1 h2 h
theorem zyr {l r:List zab} (h:∀ e∈r,e∈canonS l) (e:zab):Stays r e↔e∈r:=by refine ⟨fun q=>q.1,fun q=>⟨q,(zmB.1 (h e q)).2.1,fun f hf _ hid=>canon_inj (h f hf) (h e q) hid⟩⟩
theorem zCk (l:List zab):canonS (canonS l)=canonS l:=canon_same fun e=>by rw [zyr (fun _ h=>h),zmB]
theorem zuZ (l:List zab) (p:zab→Bool):canonS ((canonS l).filter p)=(canonS l).filter p:=by
 have h1:∀ e,e∈keepS ((canonS l).filter p)↔e∈(canonS l).filter p:=fun e=>by rw [ztG,zyr (fun e h=>(zkb.1 h).1)]
 have hn:((canonS l).filter p).Nodup:=((zdJ l).nodup_iff.2 (znc l)).filter _; refine (ztn ?_ ((zqt l).filter _)).symm; exact (znN hn (znc _)).2 (fun e=>(h1 e).symm)
def Alike (fb:DMap) (m:zcQ):Prop:=∀ k,mfind k fb.1=(mfind k m).map (·.first)∧(mfind k fb.2).getD false=((mfind k m).map (·.disputed)).getD false
theorem step_alike {l:List zab} {i:Nat} {e:zab} {fb:DMap} {m:zcQ} (h:Alike fb m):Alike (dstep l i e fb) (zdD l m i e):=by
 unfold dstep zdD; by_cases hv:eventB e=true
 case neg=>rw [if_neg (fun q=>hv (ok_eventB q)),if_neg hv]; exact h
 rw [if_pos (zoN hv),if_pos hv]; obtain ⟨h1,h2⟩:=h (dKey e)
 cases hf:mfind (dKey e) m with
 | none =>
   rw [hf] at h1; rw [h1]
   try rw [show mfind (e.Stamp.Source,e.Stamp.Seq) m=none from hf]
   simp only [Option.map_none]; intro k; by_cases hk:k=dKey e
   · subst hk; rw [zdN,show mfind (dKey e) (mput (e.Stamp.Source,e.Stamp.Seq) (⟨(i:Int),false⟩:za4) m)=some ⟨i,false⟩ from zdN _ _ _]; refine ⟨rfl,?_⟩; rw [h2,hf]; rfl
   · rw [zdV _ hk,show mfind k (mput (e.Stamp.Source,e.Stamp.Seq) (⟨(i:Int),false⟩:za4) m)=mfind k m from zdV _ hk _]; exact h k
 | some g =>
   rw [hf] at h1 h2; rw [h1]
   try rw [show mfind (e.Stamp.Source,e.Stamp.Seq) m=some g from hf]
   simp only [zcO]; intro k; by_cases hs:l[g.first.toNat]?=some e
   · rw [if_pos hs,if_pos hs]; by_cases hk:k=dKey e
     · subst hk; rw [show mfind (dKey e) (mput (e.Stamp.Source,e.Stamp.Seq) (⟨g.first,g.disputed⟩:za4) m)=some ⟨g.first,g.disputed⟩ from zdN _ _ _]; exact ⟨h1,h2⟩
     · rw [show mfind k (mput (e.Stamp.Source,e.Stamp.Seq) (⟨g.first,g.disputed⟩:za4) m)=mfind k m from zdV _ hk _]; exact h k
   · rw [if_neg hs,if_neg hs]; by_cases hk:k=dKey e
     · subst hk; rw [show mfind (dKey e) (mput (e.Stamp.Source,e.Stamp.Seq) (⟨g.first,true⟩:za4) m)=some ⟨g.first,true⟩ from zdN _ _ _]; exact ⟨h1,by rw [zdN]; rfl⟩
     · rw [show mfind k (mput (e.Stamp.Source,e.Stamp.Seq) (⟨g.first,true⟩:za4) m)=mfind k m from zdV _ hk _]; exact ⟨(h k).1,by rw [zdV _ hk]; exact (h k).2⟩
theorem zyJ {l:List zab}:∀ {r:List zab} {i:Nat} {fb:DMap} {m:zcQ},Alike fb m→Alike (dfold l r i fb) (zcI l r i m)
 | [],_,_,_,h=>h
 | e :: r,i,fb,m,h=>by unfold dfold zcI; exact zyJ (step_alike h)
theorem zu3 {fb:DMap} {m:zcQ} (h:Alike fb m):∀ {l:List zab} {i:Nat} {e:zab},e∈ckeep fb l i↔∃ j,l[j]?=some e∧∃ g,mfind (dKey e) m=some g∧g.first=((i+j:Nat):Int)∧g.disputed=false
 | [],i,e=>by simp [ckeep]
 | x :: r,i,e=>by
   have cond:(mfind (dKey x) fb.1=some (i:Int)∧(mfind (dKey x) fb.2).getD false=false)↔∃ g,mfind (dKey x) m=some g∧g.first=(i:Int)∧g.disputed=false:=by
    obtain ⟨h1,h2⟩:=h (dKey x); rw [h1,h2]
    cases hf:mfind (dKey x) m with
    | none=>simp
    | some g=>simp
   have ih:=zu3 h (l:=r) (i:=i+1) (e:=e)
   have tail:(∃ j,r[j]?=some e∧∃ g,mfind (dKey e) m=some g∧g.first=((i+1+j:Nat):Int)∧g.disputed=false)↔∃ j,0 < j∧(x :: r)[j]?=some e∧∃ g,mfind (dKey e) m=some g∧g.first=((i+j:Nat):Int)∧g.disputed=false:=by
    constructor
    · rintro ⟨j,h1,g,h2,h3,h4⟩
      exact ⟨j+1,by omega,by simpa using h1,g,h2,by rw [h3]; omega,h4⟩
    · rintro ⟨j,h0,h1,g,h2,h3,h4⟩
      obtain ⟨j,rfl⟩:∃ q,j=q+1:=⟨j - 1,by omega⟩
      exact ⟨j,by simpa using h1,g,h2,by rw [h3]; omega,h4⟩
   unfold ckeep; split
   · rename_i hc; rw [za6,ih,tail]; constructor
     · rintro (rfl | ⟨j,_,h1⟩)
       · exact ⟨0,rfl,by simpa using cond.1 hc⟩
       · exact ⟨j,h1⟩
     · rintro ⟨j,h1,h2⟩
       cases j with
       | zero=>simp only [zeJ,zaw] at h1; exact .inl h1.symm
       | succ j=>exact .inr ⟨j+1,by omega,h1,h2⟩
   · rename_i hc; rw [ih,tail]; constructor
     · rintro ⟨j,_,h1⟩
       exact ⟨j,h1⟩
     · rintro ⟨j,h1,h2⟩
       cases j with
       | zero=>simp only [zeJ,zaw] at h1; subst h1; exact absurd (cond.2 (by simpa using h2)) hc
       | succ j=>exact ⟨j+1,by omega,h1,h2⟩
theorem zu2 {fb:DMap} {m:zcQ} (h:Alike fb m):∀ {l:List zab} {i:Nat},(ckeep fb l i).Pairwise (fun a b=>idE a≠idE b)
 | [],_=>by simp [ckeep]
 | x :: r,i=>by
   unfold ckeep; split
   · rename_i hc; refine zkf.2 ⟨fun y hy e=>?_,zu2 h⟩; obtain ⟨j,_,g,h1,h2,_⟩:=(zu3 h).1 hy; have:=(h (dKey x)).1; rw [hc.1,show dKey x=dKey y from e,h1] at this; simp only [zcO,zaw] at this; omega
   · exact zu2 h
theorem ckeep_perm (l:List zab):List.Perm (ckeep (dispF l) l 0) (keepS l):=by
 have hA:Alike (dispF l) (zbO l):=zyJ (fun k=>by simp [mfind]); refine (znN ?_ (znc l)).2 (fun e=>?_)
 · refine List.Pairwise.imp ?_ (zu2 hA); intro a b h q; exact h (by rw [q])
 · rw [zu3 hA]; have hK:=znb l; constructor
   · rintro ⟨j,h1,g,h2,h3,h4⟩
     show e∈(zbO l).filterMap (pickG l); refine zpX.2 ⟨_,zhn h2,?_⟩; unfold pickG; simp only [h4,zcp,if_false]; rw [h3,zbL]; exact h1
   · intro h; obtain ⟨p,hp,hpe⟩:=zpX.1 (show e∈(zbO l).filterMap (pickG l) from h); obtain ⟨e',h1,h2,h3⟩:=hK.2 p hp; unfold pickG at hpe; split at hpe
     · cases hpe
     rename_i hd; have q:=hpe; rw [h1] at q; injection q with q; subst q; have:=zvm l p hp; refine ⟨p.2.first.toNat,hpe,p.2,?_,by omega,by simpa using hd⟩; rw [show dKey e'=p.1 from h2]; exact zne hK.1 hp
theorem zBo (l:List zab) (hl:l.length≤2000) (hp:∀ e∈l,e.Pages.length≤1000000):cw zhW [.sl 9 (List.map zaa l)] []=some (zcJ (canonS l,0)):=by obtain ⟨r,h1,h2,h3⟩:=zCc l hl hp; rw [h1,ztn (h2.trans (ckeep_perm l)) (h3.imp fun {a b} h=>by unfold leE at h; simpa using h)]
theorem zBn (l:List zab) (hl:l.length≤2000) (hp:∀ e∈l,e.Pages.length≤1000000):cw zmb [.sl 9 (List.map zaa l)] []=some (zml (canonS l)):=by refine zxz l ?_; rw [zBo l hl hp,zmA]; rfl
def deskE (s:zay) (i:Nat) (d:zai) (e:zab):zai:=
 if e.Kind=1 then (if e.Marker.toNat=i then reinS e.Stamp d else d)
 else if e.Kind=0∧e.Stamp.Source.toNat=i then (match fitS s e with
  | some q=>(match seedS s e.Script,s.Papers[q]? with
    | some sd,some p=>noteS s p sd e d
    | none,_=>{ d with marks:=d.marks++[⟨e,d.watch.Suspended⟩] }
    | _,_=>d)
  | none=>d)
 else d
def reopE (R:Reop) (e:zab):Reop:=if e.Kind=2 then mput ⟨e.Script,e.Part⟩ e.Stamp R else R
theorem evS_fst (s:zay) (st:Desks×Reop) (e:zab) (i:Nat):(evS s st e).1 i=(st.1 i).map (fun d=>deskE s i d e):=by
 have idm:∀ (f:zai→zai),(∀ d,f d=d)→st.1 i=(st.1 i).map f:=fun f h=>by
  cases st.1 i with
  | none=>rfl
  | some d=>simp [h d]
 by_cases k1:e.Kind=1
 · have hd:∀ d,deskE s i d e=if e.Marker.toNat=i then reinS e.Stamp d else d:=fun d=>by unfold deskE; rw [if_pos k1]
   unfold evS; rw [if_pos k1]; by_cases hi:e.Marker.toNat=i
   · simp only [hd,hi,if_true]
     cases h:st.1 i with
     | none=>simp [h]
     | some d=>simp [upd]
   · simp only [hd,hi,if_false]
     cases h:st.1 e.Marker.toNat with
     | none=>exact idm _ fun d=>rfl
     | some d0=>simp only [upd]; rw [if_neg (show ¬ i=e.Marker.toNat from fun h=>hi h.symm)]; exact idm _ fun d=>rfl
 by_cases k0:e.Kind=0
 case neg =>
  have hd:∀ d,deskE s i d e=d:=fun d=>by unfold deskE; rw [if_neg k1,if_neg (fun h=>k0 h.1)]
  have:(evS s st e).1=st.1:=by
   unfold evS; rw [if_neg k1]; split
   · rfl
   · rfl
  rw [this]; exact idm _ hd
 have k2:¬ e.Kind=2:=by omega
 unfold evS; rw [if_neg k1,if_neg k2,if_pos k0]; by_cases hi:e.Stamp.Source.toNat=i
 · have hd:∀ d,deskE s i d e=(match fitS s e with
    | some q=>(match seedS s e.Script,s.Papers[q]? with
      | some sd,some p=>noteS s p sd e d
      | none,_=>{ d with marks:=d.marks++[⟨e,d.watch.Suspended⟩] }
      | _,_=>d)
    | none=>d):=fun d=>by unfold deskE; rw [if_neg k1,if_pos ⟨k0,hi⟩]
   simp only [hd,hi]
   cases h:st.1 i with
   | none=>simp [h]
   | some d =>
     cases hf:fitS s e with
     | none=>simp [h]
     | some q =>
       cases hs:seedS s e.Script with
       | none=>simp [upd]
       | some sd =>
         cases hp:s.Papers[q]? with
         | none=>simp [h,hp]
         | some p=>simp [upd,hp]
 · have hd:∀ d,deskE s i d e=d:=fun d=>by unfold deskE; rw [if_neg k1,if_neg (fun h=>hi h.2)]
   rw [show (fun d=>deskE s i d e)=id from funext hd,Option.map_id]
   cases h:st.1 e.Stamp.Source.toNat with
   | none=>rfl
   | some d0 =>
     cases hf:fitS s e with
     | none=>rfl
     | some q =>
       cases hs:seedS s e.Script with
       | none=>simp only [upd]; rw [if_neg (show ¬ i=e.Stamp.Source.toNat from fun h=>hi h.symm)]; rfl
       | some sd =>
         cases hp:s.Papers[q]? with
         | none=>simp only [hp]; rfl
         | some p=>simp only [hp,upd]; rw [if_neg (show ¬ i=e.Stamp.Source.toNat from fun h=>hi h.symm)]; rfl
theorem evS_snd (s:zay) (st:Desks×Reop) (e:zab):(evS s st e).2=reopE st.2 e:=by
 unfold reopE; by_cases k1:e.Kind=1
 · rw [iNQ]; unfold evS; rw [if_pos k1]; split <;> rfl
 by_cases k2:e.Kind=2
 · rw [if_pos k2]; unfold evS; rw [if_neg k1,if_pos k2]
 rw [if_neg k2]; unfold evS; rw [if_neg k1,if_neg k2]; split
 · split
   · split <;> rfl
   · rfl
 · rfl
theorem walk_fst (s:zay):∀ (ev:List zab) (st:Desks×Reop) (i:Nat),(ev.foldl (evS s) st).1 i=(st.1 i).map (fun d=>ev.foldl (deskE s i) d)
 | [],st,i=>by simp
 | e :: r,st,i=>by rw [zjo,walk_fst s r (evS s st e) i,evS_fst,Option.map_map]; rfl
theorem walk_snd (s:zay):∀ (ev:List zab) (st:Desks×Reop),(ev.foldl (evS s) st).2=ev.foldl reopE st.2
 | [],st=>rfl
 | e :: r,st=>by rw [zjo,walk_snd s r (evS s st e),evS_snd]; rfl
theorem zvS (s:zay) (ev:List zab) (i:Nat):(walkS s ev).1 i=(seats s.Markers i).map (fun d=>ev.foldl (deskE s i) d):=walk_fst s ev _ i
theorem walk_reop (s:zay) (ev:List zab):(walkS s ev).2=ev.foldl reopE []:=walk_snd s ev _
theorem lessS_tr {a b c:zaQ} (h1:lessS a b=true) (h2:lessS b c=true):lessS a c=true:=by
 unfold lessS at *
 grind
theorem walk_ind {s:zay} {ev:List zab} {i:Nat} (Q:List zab→zai→Prop)
  (h0:∀ m∈s.Markers,m.ID.toNat=i→Q [] (desk0 m.Level))
  (h1:∀ (pre:List zab) (e:zab) (post:List zab) (d:zai),ev=pre++e :: post→Q pre d→Q (pre++[e]) (deskE s i d e))
  {d:zai} (h:(walkS s ev).1 i=some d):Q ev d:=by
 rw [zvS] at h
 cases hs:seats s.Markers i with
 | none=>rw [hs] at h; cases h
 | some d0 =>
   rw [hs] at h; injection h with h; obtain ⟨m,m1,m2,rfl⟩:=zvz _ _ _ hs
   have key:∀ (post pre:List zab) (d:zai),ev=pre++post→Q pre d→Q ev (post.foldl (deskE s i) d):=by
    intro post
    induction post with
    | nil=>intro pre d e q; rw [e,znK]; exact q
    | cons x r ih=>intro pre d e q; exact ih (pre++[x]) _ (by rw [e]; simp) (h1 pre x r d e q)
   rw [← h]; exact key ev [] _ (by simp) (h0 m m1 m2)
set_option maxRecDepth 20000
theorem few_of {l:List zab} (h:l.length < 200) (hp:∀ e∈l,e.Pages.length≤1000000):FewEv l:=
 ⟨by omega,by
  have h1:=ztB l; have h2:(keepS l).length≤(zbO l).length:=zqg _ _
  omega,hp⟩
def zzN (m:zbz) (sc pa:Int):List zbI:=m.Given.filter fun g=>g.Script == sc && g.Part == pa
theorem c_Counting (m:zbz) (sc pa:Int) (hl:m.Given.length≤1000000):cw zko [.agg (zcj m),I sc,I pa] []=some (zhp (zzN m sc pa)):=by
 refine zu6 m sc pa ?_
 have key:∀ (n i:Nat) (out:List zbI),i+n=m.Given.length→out.length≤i→zd7 m sc pa (List.map zbo out) i=some (zhp (out++(m.Given.drop i).filter fun g=>g.Script == sc && g.Part == pa)):=by
  intro n
  induction n with
  | zero=>intro i out hi ho; refine zno _ _ _ _ _ ?_; rw [zal,zaI (by omega),zak rfl,zhF (by omega)]; simp; rfl
  | succ n ih =>
    intro i out hi ho; have hlt:i < m.Given.length:=by omega
    refine zno _ _ _ _ _ ?_; rw [zal,zaA (by omega),cPQ,za2,zkj,zaz hlt,zaV,w6Q,show ((i:Int)+1)=((i+1:Nat):Int) by omega,zdn hlt,zl7]
    cases h1:(m.Given[i].Script == sc) with
    | false=>rw [zaq,ziz,iNs]; exact ih (i+1) out (by omega) (by omega)
    | true =>
      cases h2:(m.Given[i].Part == pa) with
      | false=>rw [zaF,zaq,zqf,iNs]; exact ih (i+1) out (by omega) (by omega)
      | true=>rw [zaF,zaF,znJ,if_pos rfl,zak rfl,zak (by simp only [zal]; omega),zak rfl,zcl zbo]; have:=ih (i+1) (out++[m.Given[i]]) (by omega) (by simp; omega); rw [zgr] at this; exact this
 have:=key m.Given.length 0 [] (by omega) (by simp); rw [zmy,zsZ] at this; exact this
def suspB (id:Int) (a:zaQ) (x:zbf):Bool:=x.Marker == id && !lessS a x.At && (!x.Lifted || lessS a x.Until)
def znj (m:zbz) (id:Int) (a:zaQ):Bool:=m.Suspensions.any (suspB id a)
theorem zt7 (x:zbf) (id:Int) (a:zaQ):cw zcw [.agg (zah x),.fp [I id],.fp [I a.Time,I a.Source,I a.Seq]] []=some (zag (suspB id a x)):=by
 refine zss x id a ?_; rw [zsl,za5,cmpS_le,zsl,za5,zqu]; unfold suspB
 cases (x.Marker == id) with
 | false=>rfl
 | true =>
   cases lessS a x.At with
   | true=>rfl
   | false=>cases x.Lifted <;> rfl
theorem c_idxS (l:List zbf) (id:Int) (a:zaQ) (hl:l.length≤1000000):cw zcG [.sl 12 (List.map zah l),.fn zcw [.fp [I id],.fp [I a.Time,I a.Source,I a.Seq]]] []=some (zbk (match fnd (suspB id a) 0 l with | some (i,_)=>(i:Int) | none=>-1)):=by
 refine zgy l id a ?_; refine zfG l (suspB id a) (fun i=>zb9 l id a i) (fun o=>zbk (match o with | some (i,_)=>(i:Int) | none=>-1)) ?_ ?_ ?_
 · exact zcA _ _ _ _ (by simp (disch:=omega) only [zal,zaI]; rfl)
 · intro i hi h; refine zcA _ _ _ _ ?_; simp (disch:=omega) only [zal,zaA,zak,za2,zej,zaz hi,zaV,zt7,zam]; rw [h,zaF]; rfl
 · intro i hi y h hk; refine zcA _ _ _ _ ?_; simp (disch:=omega) only [zal,zaA,zak,za2,zej,zaz hi,zaV,zt7,zam]; rw [h,zaq,w6Q]; exact hk
theorem zwD (m:zbz) (id:Int) (a:zaQ) (hl:m.Suspensions.length≤1000000):cw zgJ [.agg (zcj m),I id,.agg (zbG a)] []=some (zag (znj m id a)):=by
 refine zuu m id a ?_; rw [zga m.Suspensions id a (y:=zag (znj m id a)) ?_,zam]
 · rfl
 · rw [c_idxS _ _ _ hl,za5]; unfold znj; rw [← fnd_any]
   cases fnd (suspB id a) 0 m.Suspensions with
   | none=>rfl
   | some q=>simp; rfl
theorem c_rSame (a b:zbz) (h1:a.Given.length≤1000000) (h2:a.Suspensions.length≤1000000):cw zqG [.agg (zcj a),.agg (zcj b)] []=some (zag (dec (a=b))):=by
 refine zBL a b ?_; obtain ⟨ag,us⟩:=a; obtain ⟨bg,vs⟩:=b; simp only at h1 h2; simp only [zal]; by_cases hg:ag.length=bg.length
 case neg=>rw [show ((ag.length:Int) != (bg.length:Int))=true by simp only [bne_iff_ne,ne_eq]; omega,zaF,za3 (fun h=>hg (by injection h with h _; rw [h]))]; rfl
 rw [show ((ag.length:Int) != (bg.length:Int))=false by simp [hg],zaq]; by_cases hs:us.length=vs.length
 case neg=>rw [show ((us.length:Int) != (vs.length:Int))=true by simp only [bne_iff_ne,ne_eq]; omega,zaF,za3 (fun h=>hs (by injection h with _ h; rw [h]))]; rfl
 rw [show ((us.length:Int) != (vs.length:Int))=false by simp [hs],zaq]
 have eqG:∀ x y:zbI,(x.Script == y.Script && (x.Part == y.Part && (x.Marker == y.Marker && (x.Level == y.Level && (x.Value == y.Value && (x.Stamp.Time == y.Stamp.Time && (x.Stamp.Source == y.Stamp.Source && (x.Stamp.Seq == y.Stamp.Seq && true)) && true))))))=decide (x=y):=by
  rintro ⟨a1,a2,a3,a4,a5,a6,a7,a8⟩ ⟨b1,b2,b3,b4,b5,b6,b7,b8⟩
  rw [zpW]; simp [and_assoc]
 have eqS:∀ x y:zbf,(x.Marker == y.Marker && (x.Good.Time == y.Good.Time && (x.Good.Source == y.Good.Source && (x.Good.Seq == y.Good.Seq && true)) && (x.At.Time == y.At.Time && (x.At.Source == y.At.Source && (x.At.Seq == y.At.Seq && true)) && (x.Until.Time == y.Until.Time && (x.Until.Source == y.Until.Source && (x.Until.Seq == y.Until.Seq && true)) && (x.First == y.First && (x.Lifted == y.Lifted && true))))))=decide (x=y):=by
  rintro ⟨a1,⟨a2,a3,a4⟩,⟨a5,a6,a7⟩,⟨a8,a9,a10⟩,a11,a12⟩ ⟨b1,⟨b2,b3,b4⟩,⟨b5,b6,b7⟩,⟨b8,b9,b10⟩,b11,b12⟩
  rw [zpW]; simp [and_assoc]
 have L2:=ziB us.length (fun j hj=>us[j]=vs[j]'(by omega)) (fun i=>zk5 ⟨ag,us⟩ ⟨bg,vs⟩ i) zag ?_ ?_ ?_
 · have L1:=zmz ag.length (fun j hj=>ag[j]=bg[j]'(by omega)) (fun i=>zk4 ⟨ag,us⟩ ⟨bg,vs⟩ i) (fun y=>y=zag false) (zag (dec (∀ (j:Nat) (hj:j < us.length),us[j]=vs[j]'(by omega)))) ?_ ?_ ?_
   · rcases L1 with ⟨q1,q2⟩ | ⟨⟨j,hj,q1⟩,y,rfl,q3⟩
     · have e:dec (∀ (j:Nat) (hj:j < us.length),us[j]=vs[j]'(by omega))=dec ((⟨ag,us⟩:zbz)=⟨bg,vs⟩):=by
        refine zfj ⟨fun h=>?_,fun h=>?_⟩
        · rw [zqe hg (fun i h1 _=>q1 i h1),zqe hs (fun i h1 _=>h i h1)]
        · injection h with _ h; subst h; intros; rfl
       rw [← e]; exact q2
     · rw [za3 (fun h=>q1 (by injection h with h _; subst h; rfl))]; exact q3
   · intro _; refine zoj _ _ _ ?_; simp (disch:=omega) only [zal,zaI]; exact L2
   · intro i hi _ hn; refine ⟨_,rfl,zoj _ _ _ ?_⟩; simp (disch:=omega) only [zal,zaA,zak,za2,zkj,zaz hi,zaz (show i < bg.length by omega),zaV,eqG]; rw [decide_eq_false hn,zca,zaF]; rfl
   · intro i hi y hn hk; refine zoj _ _ _ ?_; simp (disch:=omega) only [zal,zaA,zak,za2,zkj,zaz hi,zaz (show i < bg.length by omega),zaV,eqG]; rw [decide_eq_true hn,zbv,zaq,w6Q]; exact hk
 · refine zok _ _ _ ?_; simp (disch:=omega) only [zal,zaI]; rfl
 · intro i hi hn; refine zok _ _ _ ?_; simp (disch:=omega) only [zal,zaA,zak,za2,zej,zaz hi,zaz (show i < vs.length by omega),zaV,eqS]; rw [decide_eq_false hn,zca,zaF]; rfl
 · intro i hi y hn hk; refine zok _ _ _ ?_; simp (disch:=omega) only [zal,zaA,zak,za2,zej,zaz hi,zaz (show i < vs.length by omega),zaV,eqS]; rw [decide_eq_true hn,zbv,zaq,w6Q]; exact hk
structure FairD (i:Nat) (pre:List zab) (d:zai):Prop where
 mrk:∀ x∈d.marks,x.event∈pre
 sAt:∀ y∈d.suspensions,(∃ e∈pre,y.At=e.Stamp)∧(y.Lifted=true→∃ e∈pre,y.Until=e.Stamp)∧y.Marker=(i:Int)
 lift:d.watch.Suspended=false→∀ y∈d.suspensions,y.Lifted=true
 lift2:d.watch.Suspended=true→∀ (k:Nat) (y:zbf),d.suspensions[k]?=some y→(k+1≠d.suspensions.length→y.Lifted=true)∧(k+1=d.suspensions.length→y.Lifted=false)
 out:∀ x∈d.marks,x.void=false→∀ y∈d.suspensions,lessS x.event.Stamp y.At=true∨(y.Lifted=true∧lessS x.event.Stamp y.Until=false)
 bad:∀ x∈d.marks,x.void=false→∀ y∈d.suspensions,y.First=false→lessS y.Good x.event.Stamp=true→lessS y.At x.event.Stamp=true
 per:∀ (k:Nat) (x:zbh),d.marks[k]?=some x→(k:Int) < d.period→lessS d.started x.event.Stamp=false
 st:d.period≤0∨∃ e∈pre,d.started=e.Stamp
 good:d.some=true→d.period≤0∨lessS d.started d.good=true
 pos:d.period≤(d.marks.length:Int)
theorem FairD.mono {i pre d} (h:FairD i pre d) (e:zab):FairD i (pre++[e]) d:=by
 have up:∀ {f:zab},f∈pre→f∈pre++[e]:=fun h=>aLiAs73 _ h
 refine ⟨fun x hx=>up (h.mrk x hx),fun y hy=>?_,h.lift,h.lift2,h.out,h.bad,h.per,?_,h.good,h.pos⟩
 · obtain ⟨⟨f,f1,f2⟩,g,m⟩:=h.sAt y hy; exact ⟨⟨f,up f1,f2⟩,fun hl=>by obtain ⟨q,q1,q2⟩:=g hl; exact ⟨q,up q1,q2⟩,m⟩
 · rcases h.st with q | ⟨f,f1,f2⟩
   · exact .inl q
   · exact .inr ⟨f,up f1,f2⟩
theorem FairD.rein {i pre d} (h:FairD i pre d) {e:zab} (hlt:∀ f∈pre,lessS f.Stamp e.Stamp=true):FairD i (pre++[e]) (reinS e.Stamp d):=by
 unfold reinS; split
 case isFalse=>exact h.mono e
 rename_i hs; have h':=h.mono e
 have mem:∀ y'∈d.suspensions.modify (d.suspensions.length - 1) (fun x=>{ x with Lifted:=true,Until:=e.Stamp }),∃ y∈d.suspensions,(y'={ y with Lifted:=true,Until:=e.Stamp }∧y.Lifted=false)∨(y'=y∧y.Lifted=true):=by
  intro y' hy; obtain ⟨k,hk⟩:=aLiAs63 hy; rw [List.getElem?_modify] at hk
  cases hg:d.suspensions[k]? with
  | none=>rw [hg] at hk; simp at hk
  | some y =>
    rw [hg] at hk; have hlen:k < d.suspensions.length:=(zbt.1 hg).1; refine ⟨y,zbN hg,?_⟩; obtain ⟨q1,q2⟩:=h.lift2 hs k y hg; by_cases hl:d.suspensions.length - 1=k
    · left; exact ⟨by simpa [hl,eq_comm] using hk,q2 (by omega)⟩
    · right; exact ⟨by simpa [hl,eq_comm] using hk,q1 (by omega)⟩
 refine ⟨h'.mrk,fun y' hy=>?_,fun _ y' hy=>?_,fun hh=>absurd hh (by simp),fun x hx hv y' hy=>?_,fun x hx hv y' hy hf hg=>?_,fun k x hk _=>?_,.inr ⟨e,by simp,rfl⟩,fun hh=>absurd hh (by simp),by simp⟩
 · obtain ⟨y,y1,y2⟩:=mem y' hy; obtain ⟨a1,a2,a3⟩:=h'.sAt y y1; rcases y2 with ⟨rfl,_⟩ | ⟨rfl,_⟩
   · exact ⟨a1,fun _=>⟨e,by simp,rfl⟩,a3⟩
   · exact ⟨a1,a2,a3⟩
 · obtain ⟨y,y1,y2⟩:=mem y' hy; rcases y2 with ⟨rfl,_⟩ | ⟨rfl,q⟩
   · rfl
   · exact q
 · obtain ⟨y,y1,y2⟩:=mem y' hy; rcases y2 with ⟨rfl,q⟩ | ⟨rfl,_⟩
   · rcases h.out x hx hv y y1 with r | ⟨r,_⟩
     · exact .inl r
     · rw [q] at r; cases r
   · exact h.out x hx hv _ y1
 · obtain ⟨y,y1,y2⟩:=mem y' hy; rcases y2 with ⟨rfl,_⟩ | ⟨rfl,_⟩
   · exact h.bad x hx hv y y1 hf hg
   · exact h.bad x hx hv _ y1 hf hg
 · exact zor (hlt _ (h.mrk x (zbN hk)))
theorem FairD.app {i pre d} (h:FairD i pre d) {e:zab} (hlt:∀ f∈pre,lessS f.Stamp e.Stamp=true):FairD i (pre++[e]) { d with marks:=d.marks++[⟨e,d.watch.Suspended⟩] }:=by
 have h':=h.mono e; refine ⟨fun x hx=>?_,h'.sAt,h.lift,h.lift2,fun x hx hv y hy=>?_,fun x hx hv y hy hf hg=>?_,fun k x hk hp=>?_,h'.st,h.good,?_⟩
 · rcases zb3.1 hx with hx | hx
   · exact h'.mrk x hx
   · rw [zc9.1 hx]; simp
 · rcases zb3.1 hx with hx | hx
   · exact h.out x hx hv y hy
   · rw [zc9.1 hx] at hv ⊢; have hl:=h.lift hv y hy; obtain ⟨f,f1,f2⟩:=(h.sAt y hy).2.1 hl; exact .inr ⟨hl,by rw [f2]; exact zor (hlt f f1)⟩
 · rcases zb3.1 hx with hx | hx
   · exact h.bad x hx hv y hy hf hg
   · rw [zc9.1 hx]; obtain ⟨f,f1,f2⟩:=(h.sAt y hy).1; rw [f2]; exact hlt f f1
 · have hp':(k:Int) < d.period:=hp; have:=h.pos; rw [znH (by omega)] at hk; exact h.per k x hk hp'
 · have:=h.pos; simp only [zfy,zxc]; omega
theorem FairD.susp {i pre d} (h:FairD i pre d) {e:zab} (hlt:∀ f∈pre,lessS f.Stamp e.Stamp=true) (hw:d.watch.Suspended=false) {w:zc6} (hn:w.Suspended=true) (no:List (zat×Int)) {id:Int} (hid:id=(i:Int)):FairD i (pre++[e]) (suspS id e.Stamp { d with noted:=no,watch:=w }):=by
 have h':=h.mono e; subst hid; unfold suspS; simp only; generalize hg:(if d.some then d.good else d.started)=g
 have mem:∀ (k:Nat) (x':zbh),(d.marks.mapIdx (voidIf d.period (!d.some) g))[k]?=some x'→∃ x,d.marks[k]?=some x∧x'.event=x.event∧(x'.void=false→x.void=false∧¬ (d.period≤k∧(!d.some || lessS g x.event.Stamp)=true)):=by
  intro k x' hk; rw [zke] at hk
  cases hm:d.marks[k]? with
  | none=>rw [hm] at hk; cases hk
  | some x =>
    rw [hm] at hk; injection hk with hk; refine ⟨x,rfl,by rw [← hk,zvE],fun hv=>?_⟩; rw [← hk] at hv; unfold voidIf at hv; split at hv
    · cases hv
    · rename_i q; exact ⟨hv,q⟩
 have mem':∀ x'∈d.marks.mapIdx (voidIf d.period (!d.some) g),∃ (k:Nat) (x:zbh),d.marks[k]?=some x∧x'.event=x.event∧(x'.void=false→x.void=false∧¬ (d.period≤k∧(!d.some || lessS g x.event.Stamp)=true)):=fun x' hx=>by obtain ⟨k,hk⟩:=aLiAs63 hx; obtain ⟨x,q⟩:=mem k x' hk; exact ⟨k,x,q⟩
 refine ⟨fun x' hx=>?_,fun y hy=>?_,fun hh=>?_,fun _ k y hk=>?_,fun x' hx hv y hy=>?_,fun x' hx hv y hy hf hgd=>?_,fun k x' hk hp=>?_,h'.st,h.good,?_⟩
 · obtain ⟨k,x,q1,q2,_⟩:=mem' x' hx; rw [q2]; exact h'.mrk x (zbN q1)
 · rcases zb3.1 hy with hy | hy
   · exact h'.sAt y hy
   · rw [zc9.1 hy]; exact ⟨⟨e,by simp,rfl⟩,fun hh=>absurd hh (by simp),rfl⟩
 · rw [hn] at hh; cases hh
 · rw [zfy,zxc]; by_cases hk':k < d.suspensions.length
   · rw [znH hk'] at hk; exact ⟨fun _=>h.lift hw y (zbN hk),fun q=>absurd q (by omega)⟩
   · rw [List.getElem?_append_right (by omega)] at hk
     have:k - d.suspensions.length=0:=by have:=(zbt.1 hk).1; simp at this; omega
     rw [this] at hk; simp only [zeJ,zaw] at hk; exact ⟨fun q=>absurd (by omega) q,fun _=>by rw [← hk]⟩
 · obtain ⟨k,x,q1,q2,q3⟩:=mem' x' hx; have hx0:=zbN q1; rw [q2]; rcases zb3.1 hy with hy | hy
   · exact h.out x hx0 (q3 hv).1 y hy
   · rw [zc9.1 hy]; exact .inl (hlt _ (h.mrk x hx0))
 · obtain ⟨k,x,q1,q2,q3⟩:=mem' x' hx; have hx0:=zbN q1; rw [q2] at hgd ⊢; rcases zb3.1 hy with hy | hy
   · exact h.bad x hx0 (q3 hv).1 y hy hf hgd
   · rw [zc9.1 hy] at hf hgd; simp only at hf hgd; exfalso; have hs:d.some=true:=by simpa using hf
     have hk:¬ d.period≤(k:Int):=fun hk=>(q3 hv).2 ⟨hk,by simp only [hgd,Bool.or_true]⟩
     have hp:=h.per k x q1 (by omega); rw [hs,if_pos rfl] at hg; rw [← hg] at hgd; rcases h.good hs with r | r
     · omega
     · rw [lessS_tr r hgd] at hp; cases hp
 · obtain ⟨x,q1,q2,_⟩:=mem k x' hk; rw [q2]; exact h.per k x q1 hp
 · have:=h.pos; simpa using this
theorem FairD.note {i pre d} (h:FairD i pre d) {e:zab} (hlt:∀ f∈pre,lessS f.Stamp e.Stamp=true) (s:zay) (p:zaE) (sd:GSeed) (hid:e.Stamp.Source=(i:Int)):FairD i (pre++[e]) (noteS s p sd e d):=by
 have h':=h.mono e; unfold noteS; split
 · exact h'
 · simp only; split
   · exact ⟨h'.mrk,h'.sAt,h'.lift,h'.lift2,h'.out,h'.bad,h'.per,h'.st,h'.good,h'.pos⟩
   · split
     · exact ⟨h'.mrk,h'.sAt,h'.lift,h'.lift2,h'.out,h'.bad,h'.per,h'.st,h'.good,h'.pos⟩
     · rename_i hw; have hw:d.watch.Suspended=false:=by simpa using hw
       split
       · rename_i hn; exact h.susp hlt hw hn _ hid
       · rename_i hn; split
         · refine ⟨h'.mrk,h'.sAt,fun _=>h'.lift hw,fun q=>absurd q hn,h'.out,h'.bad,h'.per,h'.st,fun _=>?_,h'.pos⟩; rcases h.st with q | ⟨f,f1,f2⟩
           · exact .inl q
           · right; simp only; rw [f2]; exact hlt f f1
         · exact ⟨h'.mrk,h'.sAt,fun _=>h'.lift hw,fun q=>absurd q hn,h'.out,h'.bad,h'.per,h'.st,h'.good,h'.pos⟩
theorem zCl {l:List zab}:∀ e∈canonS l,eventB e=true:=fun _ he=>(zmB.1 he).2.1
theorem zBA (i:Nat) (d:zai) (R:Reop):((countS d R).map fun p=>zb4 i d p.2).Nodup:=by obtain ⟨k1,k2⟩:=zqv d R; generalize countS d R=m at k1 k2; unfold List.Nodup at k1 ⊢; rw [zxg] at k1 ⊢; refine zxh ?_ k1; intro p q hp hq hne he; unfold zb4 at he; injection he with e1 e2; exact hne (by rw [k2 p hp,k2 q hq,e1,e2])
theorem zub (ds:Desks) (R:Reop):∀ n,(zb6 ds R n).Nodup
 | 0=>by simp [zb6]
 | n+1=>by
   rw [zky]; refine List.nodup_append.2 ⟨zub ds R n,?_,?_⟩
   · cases ds n with
     | none=>exact List.nodup_nil
     | some d=>exact zBA n d R
   · intro a ha b hb hab; subst hab; obtain ⟨i,hi,d,_,p,_,rfl⟩:=zlM.1 ha
     cases hd:ds n with
     | none=>rw [hd] at hb; cases hb
     | some f=>rw [hd] at hb; obtain ⟨q,_,hq⟩:=zbB.1 hb; unfold zb4 at hq; injection hq with _ _ h3; omega
theorem ztx {α β:Type} {f g:α→List β}:∀ {l:List α},(∀ x∈l,f x=g x)→l.flatMap f=l.flatMap g
 | [],_=>rfl
 | x :: r,h=>by rw [aLiAs8,aLiAs8,h x (by simp),ztx (fun y hy=>h y (by simp [hy]))]
def strip (d:zai):zai:={ d with marks:=[],period:=0 }
theorem strip_rein (a:zaQ) (d:zai):strip (reinS a d)=strip (reinS a (strip d)):=by unfold reinS; rw [show (strip d).watch=d.watch from rfl]; split <;> rfl
theorem strip_note (s:zay) (p:zaE) (sd:GSeed) (e:zab) (d:zai):strip (noteS s p sd e d)=strip (noteS s p sd e (strip d)):=by
 unfold noteS; rw [show (strip d).watch=d.watch from rfl,show (strip d).noted=d.noted from rfl]; split
 · rfl
 · simp only; split
   · rfl
   · split
     · rfl
     · split
       · rfl
       · split <;> rfl
theorem zy7 (s:zay) (i:Nat) (d:zai) (e:zab):strip (deskE s i d e)=strip (deskE s i (strip d) e):=by
 unfold deskE; split
 · split
   · exact strip_rein _ _
   · rfl
 · split
   · split
     · split
       · exact strip_note _ _ _ _ _
       · rfl
       · rfl
     · rfl
   · rfl
def seedB (s:zay) (e:zab):Bool:=e.Kind != 0 || (seedOf s.Seeds e.Script).isSome
theorem strip_skip (s:zay) (i:Nat) (d:zai) {e:zab} (h:seedB s e=false):strip (deskE s i d e)=strip d:=by
 unfold seedB at h; simp only [zxe,bne_eq_false_iff_eq,Option.isSome_eq_false_iff,Option.isNone_iff_eq_none] at h; unfold deskE; rw [iNQ]; split
 · split
   · rw [show seedS s e.Script=none by unfold seedS; rw [h.2]; rfl]; rfl
   · rfl
 · rfl
theorem zt0 (s:zay) (i:Nat):∀ (ev:List zab) (d f:zai),strip d=strip f→strip (ev.foldl (deskE s i) d)=strip ((ev.filter (seedB s)).foldl (deskE s i) f)
 | [],d,f,h=>h
 | e :: r,d,f,h=>by
   rw [zl7]; split
   · refine zt0 s i r _ _ ?_; rw [zy7 s i d e,zy7 s i f e,h]
   · rename_i hp; refine zt0 s i r _ _ ?_; rw [strip_skip s i d (by simpa using hp)]; exact h
theorem seeds_susp {s:zay} {C:List zab} (hC:canonS C=C):(foldS s (C.filter (seedB s))).Suspensions=(foldS s C).Suspensions:=by
 have hO:canonS (C.filter (seedB s))=C.filter (seedB s):=by have:=zuZ C (seedB s); rw [hC] at this; exact this
 rw [zvO,zvO,hO,hC]; simp only; unfold suspTo; refine ztx (fun i _=>?_); rw [zvS,zvS]
 cases seats s.Markers i with
 | none=>rfl
 | some d=>simp only [zcO]; have:=zt0 s i C d d rfl; exact (congrArg zai.suspensions this).symm
theorem zvq {κ ν:Type} [DecidableEq κ] (key:zab→κ) (val:zab→ν) (k:κ):∀ (l:List zab) (m:List (κ×ν)),mfind k (l.foldl (fun m e=>mput (key e) (val e) m) m)=match (l.filter (fun e=>decide (key e=k))).getLast? with
  | some e=>some (val e)
  | none=>mfind k m
 | [],m=>rfl
 | e :: r,m=>by
   rw [zjo,zvq key val k r]; rw [zl7]; by_cases h:key e=k
   · rw [if_pos (by simpa using h),List.getLast?_cons,h,zdN]; cases (r.filter (fun e=>decide (key e=k))).getLast? <;> rfl
   · rw [if_neg (by simpa using h),zdV _ (fun q=>h q.symm)]
theorem zyP {κ ν:Type} [DecidableEq κ] (key:zab→κ) (val:zab→ν):∀ (l:List zab) (m:List (κ×ν)),(m.map (·.1)).Nodup→((l.foldl (fun m e=>mput (key e) (val e) m) m).map (·.1)).Nodup
 | [],_,h=>h
 | _ :: r,_,h=>zyP key val r _ (zri h).1
theorem mem_keys {κ ν:Type} [DecidableEq κ] {k:κ}:∀ {m:List (κ×ν)},k∈m.map (·.1)↔(mfind k m).isSome
 | []=>by simp [mfind]
 | p :: r=>by
   unfold mfind; by_cases h:p.1=k
   · simp [h]
   · rw [if_neg h,← mem_keys (m:=r)]; simp only [zcq,za6,show ¬ k=p.1 from fun q=>h q.symm,false_or]
def key3 (e:zab):Int×Int×Int:=(e.Script,e.Part,e.Stamp.Source)
def keyG (g:zbI):Int×Int×Int:=(g.Script,g.Part,g.Marker)
def fitB (s:zay) (e:zab):Bool:=(fitS s e).isSome
def lastS (s:zay) (l:List zab):List ((Int×Int×Int)×Int):=(l.filter (fitB s)).foldl (fun m e=>mput (key3 e) e.Value m) []
theorem seats_some {ms:List zaW} {m:zaW} (hm:m∈ms):∃ d,seats ms m.ID.toNat=some d:=by
 have stay:∀ (l:List zaW) (ds:Desks) (i:Nat),(∃ d,ds i=some d)→∃ d,(l.foldl (fun ds m=>upd ds m.ID.toNat (desk0 m.Level)) ds) i=some d:=by
  intro l
  induction l with
  | nil=>intro ds i h; exact h
  | cons x r ih =>
    intro ds i h; refine ih _ i ?_; by_cases hi:i=x.ID.toNat
    · exact ⟨_,by rw [hi]; exact zom _ _ _⟩
    · obtain ⟨d,hd⟩:=h; exact ⟨d,(zo1 ds (desk0 x.Level) hi).trans hd⟩
 have key:∀ (l:List zaW) (ds:Desks),m∈l→∃ d,(l.foldl (fun ds m=>upd ds m.ID.toNat (desk0 m.Level)) ds) m.ID.toNat=some d:=by
  intro l
  induction l with
  | nil=>intro _ h; cases h
  | cons x r ih =>
    intro ds h; rcases za6.1 h with rfl | h
    · exact stay r _ _ ⟨_,zom _ _ _⟩
    · exact ih _ h
 exact key ms _ hm
theorem fit_seat {s:zay} {e:zab} (h:fitB s e=true):∃ d,seats s.Markers e.Stamp.Source.toNat=some d:=by
 obtain ⟨q,hq⟩:=zbV.1 h; obtain ⟨x,p,y,h1,h2,_⟩:=zsx hq; unfold eligB at h2; split at h2
 · rename_i k m hm; obtain ⟨a1,a2,_⟩:=fnd_at hm; have:=seats_some (zbN a1); simp only [beq_iff_eq] at a2; rw [a2] at this; exact this
 · cases h2
theorem zy1 {s:zay} (h0:s.Seeds=[]) {ev:List zab} (hk:∀ e∈ev,e.Kind=0) {i:Nat} {d:zai} (h:(walkS s ev).1 i=some d):(∀ x∈d.marks,x.void=false)∧d.suspensions=[]:=by
 have:(∀ x∈d.marks,x.void=false)∧d.suspensions=[]∧d.watch.Suspended=false:=by
  refine walk_ind (fun _ d=>(∀ x∈d.marks,x.void=false)∧d.suspensions=[]∧d.watch.Suspended=false) (fun m _ _=>⟨by simp [desk0],rfl,rfl⟩) (fun pre e post d he q=>?_) h; have k0:e.Kind=0:=hk e (by rw [he]; simp); unfold deskE; rw [iNQ]; split
  · split
    · rw [show seedS s e.Script=none by unfold seedS seedOf; rw [h0]; rfl]; refine ⟨fun x hx=>?_,q.2.1,q.2.2⟩; rcases zb3.1 hx with hx | hx
      · exact q.1 x hx
      · rw [zc9.1 hx]; exact q.2.2
    · exact q
  · exact q
 exact ⟨this.1,this.2.1⟩
theorem zBz {d:zai} (hv:∀ x∈d.marks,x.void=false):countS d []=(d.marks.map (·.event)).foldl (fun m e=>mput (⟨e.Script,e.Part⟩:zat) e m) []:=by
 have key:∀ (l:List zbh) (m:Counts),(∀ x∈l,x.void=false)→l.foldl (zfn d []) m=(l.map (·.event)).foldl (fun m e=>mput (⟨e.Script,e.Part⟩:zat) e m) m:=by
  intro l
  induction l with
  | nil=>intro m _; rfl
  | cons x r ih=>intro m h; rw [zjo,ih _ (fun y hy=>h y (by simp [hy])),zcq,zjo]; congr 1; unfold zfn; rw [h x (by simp),iNs,if_neg (by simp [reopB,mfind])]
 exact key d.marks [] hv
theorem zy3:∀ {ev:List zab} (R:Reop),(∀ e∈ev,e.Kind=0)→ev.foldl reopE R=R
 | [],R,_=>rfl
 | e :: r,R,h=>by rw [zjo,show reopE R e=R by unfold reopE; rw [if_neg (by have:=h e (by simp); omega)]]; exact zy3 R (fun x hx=>h x (by simp [hx]))
theorem zCE {s:zay} (h0:s.Seeds=[]) {P:List zab} (hP:canonS P=P) (hk:∀ e∈P,e.Kind=0):(foldS s P).Suspensions=[]∧(lastS s P).length=(foldS s P).Given.length∧∀ g∈(foldS s P).Given,mfind (keyG g) (lastS s P)=some g.Value:=by
 have hv:∀ e∈P,eventB e=true:=fun e he=>zCl e (by rw [hP]; exact he)
 rw [zvO,hP]; have hR:(walkS s P).2=[]:=by rw [walk_reop]; exact zy3 [] hk
 rw [hR]; simp only; have nos:∀ n,seedS s n=none:=fun n=>by unfold seedS seedOf; rw [h0]; rfl
 have find:∀ (a b:Int) (i:Nat) (d:zai),(walkS s P).1 i=some d→mfind (⟨a,b⟩:zat) (countS d [])=((P.filter (fitB s)).filter (fun e=>decide (key3 e=(a,b,(i:Int))))).getLast?:=by
  intro a b i d hd; rw [zBz (zy1 h0 hk hd).1,zvq (fun e=>(⟨e.Script,e.Part⟩:zat)) (fun e=>e),zzb hd]; rw [show (P.filter (markEv s i)).filter (fun e=>decide ((⟨e.Script,e.Part⟩:zat)=⟨a,b⟩))=(P.filter (fitB s)).filter (fun e=>decide (key3 e=(a,b,(i:Int)))) from ?_]
  · cases ((P.filter (fitB s)).filter (fun e=>decide (key3 e=(a,b,(i:Int))))).getLast? <;> rfl
  · rw [aLiAs99,aLiAs99]; refine List.filter_congr (fun e he=>?_); have:=(zoN (hv e he)).1.2.1; rw [zpW]; unfold markEv fitB key3; simp only [zbQ,decide_eq_true_eq,beq_iff_eq,nos,Option.isNone_none,and_true,zat.mk.injEq,zaK,hk e he,true_and]; constructor
    · rintro ⟨⟨q1,q2⟩,q3,q4⟩
      exact ⟨⟨q1,q2,by omega⟩,q4⟩
    · rintro ⟨⟨q1,q2,q3⟩,q4⟩
      exact ⟨⟨q1,q2⟩,by omega,q4⟩
 have find2:∀ k,mfind k (lastS s P)=((P.filter (fitB s)).filter (fun e=>decide (key3 e=k))).getLast?.map (·.Value):=by intro k; unfold lastS; rw [zvq key3 (fun e=>e.Value)]; cases ((P.filter (fitB s)).filter (fun e=>decide (key3 e=k))).getLast? <;> rfl
 have look:∀ g∈zb6 (walkS s P).1 [] 100,mfind (keyG g) (lastS s P)=some g.Value:=by intro g hg; obtain ⟨i,hi,d,hd,p,hp,rfl⟩:=zlM.1 hg; obtain ⟨k1,k2⟩:=zqv d []; have h1:=zne k1 hp; rw [k2 p hp,find _ _ i d hd] at h1; rw [find2]; show Option.map _ (((P.filter (fitB s)).filter (fun e=>decide (key3 e=(p.2.Script,p.2.Part,(i:Int))))).getLast?)=_; rw [h1]; rfl
 refine ⟨?_,?_,fun g hg=>look g ((zhf _).mem_iff.1 hg)⟩
 · unfold suspTo; refine zkg (ztx (g:=fun _=>[]) fun i _=>?_) (by simp)
   cases hd:(walkS s P).1 i with
   | none=>rfl
   | some d=>exact (zy1 h0 hk hd).2
 · rw [(zhf (lt:=zck) _).length_eq]
   have hn:((zb6 (walkS s P).1 [] 100).map keyG).Nodup:=by unfold List.Nodup; rw [zxg]; refine zxh ?_ (zub (walkS s P).1 [] 100); intro a b ha hb hne he; unfold keyG at he; injection he with e1 e2; injection e2 with e2 e3; exact hne (zzX ha hb e1 e2 e3)
   have hl:((lastS s P).map (·.1)).Nodup:=zyP key3 (fun e=>e.Value) _ [] (by simp)
   have hp:=(znN hl hn).2 (fun k=>by
    rw [mem_keys,find2]; constructor
    · intro h; rw [aLiAs89] at h; obtain ⟨e,he⟩:=zbV.1 h; have hm:=List.mem_of_getLast? he; obtain ⟨m1,m2⟩:=zkb.1 hm; obtain ⟨m3,m4⟩:=zkb.1 m1; simp only [decide_eq_true_eq] at m2; have hs:=(zoN (hv e m3)).1.2.1; obtain ⟨d0,hd0⟩:=fit_seat m4; have hd:∃ d,(walkS s P).1 e.Stamp.Source.toNat=some d:=by rw [zvS,hd0]; exact ⟨_,rfl⟩
      obtain ⟨d,hd⟩:=hd; have hf:=find e.Script e.Part _ d hd; rw [show ((e.Stamp.Source.toNat:Nat):Int)=e.Stamp.Source by omega,show (e.Script,e.Part,e.Stamp.Source)=k from m2,he] at hf; have hmem:=zhn hf; refine zbB.2 ⟨zb4 e.Stamp.Source.toNat d e,zlM.2 ⟨_,by omega,d,hd,_,hmem,rfl⟩,?_⟩; unfold keyG zb4; rw [← m2]; unfold key3; simp only [zaK,true_and]; omega
    · intro h; obtain ⟨g,hg,rfl⟩:=zbB.1 h; have:=look g hg; rw [find2] at this; rw [this]
      rfl)
   have:=hp.length_eq; simpa using this
set_option maxRecDepth 100000
def scr0 (i:Int):zaJ:=⟨i,0,i,1,0,[],[-1]⟩
def S0:zay:=⟨[⟨7,-1,1,9,[0]⟩],[scr0 1,scr0 2,scr0 3,scr0 4,scr0 5,scr0 6],[⟨0,0,[⟨1,5,0,0,0,0⟩]⟩],[⟨[[]],[0]⟩],[⟨1,[4]⟩,⟨6,[4]⟩],⟨0,0,1,1⟩⟩
theorem c_setup29:cw zlY [] []=some (zpd S0):=cw_of 30 (by kernel_rfl)
def at29 (t s v:Int):zab:=⟨⟨t,7,t⟩,0,s,0,v,0,[]⟩
theorem zsk (a b c:Int):cw zg7 [I a,I b,I c] []=some (zk6 (at29 a b c)):=e_law29_at a b c rfl
def l0:List zab:=[at29 9 2 1,at29 10 1 4,at29 11 3 2,at29 12 4 3,at29 13 6 1]
def l1:List zab:=l0++[⟨⟨20,0,0⟩,1,0,0,0,7,[]⟩,at29 21 3 5]
def w0d:Desks×Reop:=walkS S0 (canonS l0)
def zol (i:Nat) (d:zai) (R:Reop) (l:List zbh):List GTask:=l.filterMap fun x=>if x.void=true∧(mfind ⟨x.event.Script,x.event.Part⟩ (countS d R)).isSome=false then some ⟨x.event.Script,(i:Int)⟩ else none
def zsO (ds:Desks) (R:Reop):Nat→Nat→List GTask
 | _,0=>[]
 | i,n+1=>(match ds i with | some d=>zol i d R d.marks | none=>[])++zsO ds R (i+1) n
theorem ok_S0:zcM S0 where
 markers:=by
  refine ⟨by decide,?_,?_⟩
  · intro m hm; simp only [S0,zc9] at hm; subst hm; refine ⟨⟨by decide,by decide,by decide,by decide,by simp⟩,fun j hj=>by simp at hj⟩
  · intro j hj; simp [S0] at hj
 scripts:=by
  refine ⟨by decide,?_,?_⟩
  · intro x hx; simp only [S0,za6,zc7,or_false] at hx; rcases hx with rfl | rfl | rfl | rfl | rfl | rfl <;> exact ⟨by decide,by decide,by decide,by decide,by decide,by decide⟩
  · intro j hj; have:j < 5:=by simp [S0] at hj; omega
    match j,this with
    | 0,_ | 1,_ | 2,_ | 3,_ | 4,_=>simp [S0,scr0]
 papers:=by decide
 len:=rfl
 schemes:=by
  intro j p c hp hc
  match j with
  | 0 =>
    simp only [S0,zeJ,zaw] at hp hc; subst hp hc; refine ⟨⟨by decide,by decide,by decide,?_,by decide⟩,rfl,rfl,?_⟩
    · intro x hx; simp only [zc9] at hx; subst hx; exact ⟨by decide,by decide,by decide,.inl (by decide)⟩
    · intro j x ks k hx hks hk
      match j with
      | 0=>simp only [zeJ,zaw] at hx hks hk; subst hx hks hk; exact ⟨⟨by simp,fun j hj=>by simp at hj⟩,by decide⟩
      | j+1=>simp at hx
  | j+1=>simp [S0] at hp
 script:=by
  intro x hx; refine ⟨0,⟨0,0,[⟨1,5,0,0,0,0⟩]⟩,⟨[[]],[0]⟩,?_,rfl,?_⟩
  · simp only [S0,za6,zc7,or_false] at hx; rcases hx with rfl | rfl | rfl | rfl | rfl | rfl <;> rfl
  · have:x.Answers=[-1]:=by simp only [S0,za6,zc7,or_false] at hx; rcases hx with rfl | rfl | rfl | rfl | rfl | rfl <;> rfl
    rw [this]; refine ⟨rfl,fun j y v hy _ hk=>?_⟩
    match j with
    | 0=>simp only [zeJ,zaw] at hy; subst hy; exact absurd rfl hk
    | j+1=>simp at hy
 seeds:=by decide
 asc:=by
  intro j hj; have:j < 1:=by simp [S0] at hj; omega
  match j,this with
  | 0,_=>simp [S0]
 seed:=by
  intro x hx; refine ⟨0,⟨0,0,[⟨1,5,0,0,0,0⟩]⟩,?_,?_⟩
  · simp only [S0,za6,zc7,or_false] at hx; rcases hx with rfl | rfl <;> rfl
  · have:x.Marks=[4]:=by simp only [S0,za6,zc7,or_false] at hx; rcases hx with rfl | rfl <;> rfl
    rw [this]; refine ⟨rfl,fun j y v hy hv=>?_⟩
    match j with
    | 0=>simp only [zeJ,zaw] at hy hv; subst hy hv; decide
    | j+1=>simp at hy
 monitor:=⟨by decide,by decide,by decide,by decide⟩
 short:=by intro c hc ks hk; simp only [S0,zc9] at hc; subst hc; simp only [zc9] at hk; subst hk; decide
 short2:=by intro m hm; simp only [S0,zc9] at hm; subst hm; decide
theorem few0:FewEv l0:=few_of (by decide) (by intro e he; simp only [l0,za6,zc7,or_false] at he; rcases he with rfl | rfl | rfl | rfl | rfl <;> decide)
theorem few1:FewEv l1:=few_of (by decide) (by intro e he; simp only [l1,l0,zb3,za6,zc7,or_false] at he; rcases he with (rfl | rfl | rfl | rfl | rfl) | rfl | rfl <;> decide)
theorem tasks_ok:zsO w0d.1 w0d.2 0 100=[⟨3,7⟩,⟨4,7⟩]:=by kernel_rfl
theorem sort_ok:cw zf4 [.row 1000 2 0 2,.fn zm7 []] [(1000,⟨2,zbJ,List.map zfX [⟨3,7⟩,⟨4,7⟩],false⟩)]=some (zd9 [⟨3,7⟩,⟨4,7⟩]):=cw_of 30 (by kernel_rfl)
theorem compact_ok:cw zgd [.row 1000 2 0 2] [(1000,⟨2,zbJ,List.map zfX [⟨3,7⟩,⟨4,7⟩],false⟩)]=some (zel (2,[⟨3,7⟩,⟨4,7⟩])):=cw_of 30 (by kernel_rfl)
theorem tasks_len (i:Nat) (d:zai) (R:Reop) (l:List zbh):(zol i d R l).length≤l.length:=zqg _ _
theorem ret_marks (r1:((List zab)×Int)×(List zab)) (ds:Desks) (R:Reop) (i:Nat) (d:zai) (hl:d.marks.length≤1000000) {y:AV×Mem} (out:List GTask) (ho:out.length≤1000000)
  (h:zdr r1 (deskL ds,R) (List.map zfX (out++zol i d R d.marks)) (w64 ((i:Int)+1))=some y):zds r1 (deskL ds,R) i d (countS d R) (List.map zfX out) 0=some y:=by
 have key:∀ (n j:Nat) (o:List GTask),j+n=d.marks.length→o++zol i d R (d.marks.drop j)=out++zol i d R d.marks→o.length≤1000000+j→zds r1 (deskL ds,R) i d (countS d R) (List.map zfX o) j=some y:=by
  intro n
  induction n with
  | zero=>intro j o hj he hlo; refine znq _ _ _ _ _ _ _ ?_; rw [zal,zaI (by omega)]; rw [zhF (by omega)] at he; simp only [zol,List.filterMap_nil,znK] at he; rw [he]; exact h
  | succ n ih =>
    intro j o hj he hlo; have hlt:j < d.marks.length:=by omega
    refine znq _ _ _ _ _ _ _ ?_; rw [zal,zaA (by omega),cPQ,za2,zg6,zaz hlt,zaV,w6Q,show ((j:Int)+1)=((j+1:Nat):Int) by omega]; rw [show (AV.agg (zcR.enc ⟨d.marks[j].event.Script,d.marks[j].event.Part⟩))=.agg (zbg ⟨d.marks[j].event.Script,d.marks[j].event.Part⟩) from rfl,zlN]; rw [zdn hlt] at he; unfold zol at he; rw [List.filterMap_cons] at he
    cases hv:d.marks[j].void with
    | false=>rw [zaq]; rw [if_neg (by rw [hv]; simp)] at he; exact ih (j+1) o (by omega) he (by omega)
    | true =>
      rw [zaF]
      cases hm:(mfind ⟨d.marks[j].event.Script,d.marks[j].event.Part⟩ (countS d R)).isSome with
      | true=>rw [zbv,zaq]; rw [if_neg (by rw [hm]; simp)] at he; exact ih (j+1) o (by omega) he (by omega)
      | false=>rw [zca,zaF,zak rfl,zak (by simp only [zal]; omega),zak rfl]; rw [if_pos ⟨hv,hm⟩] at he; have:=ih (j+1) (o++[⟨d.marks[j].event.Script,i⟩]) (by omega) (by rw [zgr]; exact he) (by simp; omega); rw [← zcl] at this; exact this
 exact key d.marks.length 0 out (by omega) (by rw [zmy]) (by omega)
theorem ret_desks (r1:((List zab)×Int)×(List zab)) (ds:Desks) (R:Reop) (hd:∀ i d,ds i=some d→d.marks.length≤200) {y:AV×Mem} {ts:List GTask}
  (h:zdr r1 (deskL ds,R) (List.map zfX ts) 100=some y):∀ (n i:Nat) (out:List GTask),i+n=100→out++zsO ds R i n=ts→out.length≤200*i→zdr r1 (deskL ds,R) (List.map zfX out) i=some y:=by
 intro n
 induction n with
 | zero =>
   intro i out hi he _; have:i=100:=by omega
   subst this; simp only [zsO,znK] at he; rw [he]; exact h
 | succ n ih =>
   intro i out hi he hlo; have hlt:i < 100:=by omega
   refine znp _ _ _ _ ?_; have hget:=zzO ds hlt; rw [zaA (by omega),cPQ,zak (show (i:Int) < 100 by omega),za2]; unfold zsO at he
   cases hdi:ds i with
   | none=>rw [hdi] at hget he; rw [zrc (by simpa [nDp] using hget)]; refine zq3 _ _ _ _ ?_; rw [w6Q,show ((i:Int)+1)=((i+1:Nat):Int) by omega]; exact ih (i+1) out (by omega) (by simpa using he) (by omega)
   | some d=>rw [hdi] at hget he; rw [zzQ (D:=zfo) (x:=d) (by simpa [nDp] using hget)]; refine zpK _ _ _ _ _ ?_; have hc:=zyj d R (by have:=hd i d hdi; omega); unfold zc4 at hc; rw [hc,zin]; have hml:=hd i d hdi; have htl:=tasks_len i d R d.marks; refine ret_marks r1 ds R i d (by omega) out (by omega) ?_; rw [w6Q,show ((i:Int)+1)=((i+1:Nat):Int) by omega]; exact ih (i+1) _ (by omega) (by rw [zgr]; exact he) (by rw [zfy]; omega)
theorem c_ret0:cw zkp [.agg (zar S0),.row 1001 9 0 5] [(1001,⟨9,zac,List.map zaa l0,false⟩)]=some (zkJ (([⟨3,7⟩,⟨4,7⟩],0),l0)):=by
 refine zu7 S0 l0 ?_; rw [zq8 ok_S0,za5,show ((0:Int) != 0)=false from rfl,zaq]; have hc:=c_canon true few0; rw [show cw zbm [.row 1000 9 0 (List.length (List.map zaa l0))] [(1000,⟨9,zac,List.map zaa l0,false⟩)]=some (zdI ((canonS l0,0),l0)) from hc,zle]; simp only [show ((0:Int) != 0)=false from rfl,zaq]; rw [c_walk (okRun ok_S0 few0),zoH]; refine ret_desks _ _ _ (fun i d hd=>?_) (ts:=[⟨3,7⟩,⟨4,7⟩]) ?_ 100 0 [] (by omega) tasks_ok (by simp)
 · have h1:=(desk_ok ok_S0 _ hd).marks; have h2:=(zdJ l0).length_eq; have h3:=few0.2.1; omega
 · refine znp _ _ _ _ ?_; rw [zaI (by omega),show List.length (List.map zfX [⟨3,7⟩,⟨4,7⟩])=2 from rfl,sort_ok,zjd,compact_ok,zjC,zak (by simp)]; rfl
def m0:zbz:=⟨[⟨2,0,7,1,1,⟨9,7,9⟩⟩],[⟨7,⟨10,7,10⟩,⟨13,7,13⟩,⟨0,0,0⟩,false,false⟩]⟩
def m1:zbz:=⟨[⟨2,0,7,1,1,⟨9,7,9⟩⟩,⟨3,0,7,1,5,⟨21,7,21⟩⟩],[⟨7,⟨10,7,10⟩,⟨13,7,13⟩,⟨20,0,0⟩,false,true⟩]⟩
theorem fold0:foldS S0 l0=m0:=by kernel_rfl
theorem fold1:foldS S0 l1=m1:=by kernel_rfl
theorem c_sane:cw zm5 [] []=some (zag true):=by refine zBC ?_; rw [zsk,zfB,zsk,zfB,zsk,zfB,zsk,zfB,zsk,zfB,zak rfl,c_setup29,zlr]; have h0:=c_fold ok_S0 few0; rw [fold0] at h0; refine zkg (zbC (D:=zdd) (x:=((m0,0),l0)) h0 _) ?_; rw [zlr]; refine zkg (zbC (D:=zfZ) (x:=(([⟨3,7⟩,⟨4,7⟩],0),l0)) c_ret0 _) ?_; rw [zsk,zfB,zak (by rfl),zak (by decide),zak rfl,zlr]; have h1:=c_fold ok_S0 few1; rw [fold1] at h1; refine zkg (zbC (D:=zdd) (x:=((m1,0),l1)) h1 _) ?_; rw [c_Counting m1 3 0 (by decide),zry,zwD m1 7 _ (by decide),zam,zwD m1 7 _ (by decide),zam]; rw [show zzN m1 3 0=[⟨3,0,7,1,5,⟨21,7,21⟩⟩] from by decide,show znj m1 7 ⟨15,0,0⟩=true from by decide,show znj m1 7 ⟨21,0,0⟩=false from by decide]; simp only [zkj,zej]; simp [m0,m1,zaF,zbe]; rfl
set_option maxRecDepth 20000
theorem zzT {s:zay} (hs:zcM s) {l:List zab} (h:FewEv l):(foldS s l).Given.length≤1000000∧(foldS s l).Suspensions.length≤1000000:=by rw [zvO]; have h1:=zrM s (canonS l) (walkS s (canonS l)).2 100; have h2:=(zdJ l).length_eq; have h3:=h.2.1; have h4:=zy8 hs (canonS l) 100; have h5:=(zhf (lt:=zck) (zb6 (walkS s (canonS l)).1 (walkS s (canonS l)).2 100)).length_eq; simp only; omega
set_option maxRecDepth 20000
theorem elig_iff {l:List zaW} {n:Int} {x:zaJ}:eligB l n x=true↔Elig l n x:=by
 unfold eligB Elig FitsM
 cases h:zmj l n with
 | none=>simp
 | some q =>
   obtain ⟨k,m⟩:=q; simp only [mayB,zbQ,zxb,bne_iff_ne,zaw,zaK]; constructor
   · intro h; exact ⟨k,m,⟨rfl,rfl⟩,h⟩
   · rintro ⟨_,_,⟨rfl,rfl⟩,h⟩; exact h
theorem fits_iff {s:zay} (hs:zcM s) {e:zab} (hk:e.Kind=0):dec (FitsE s e)=fitB s e:=by
 symm; refine zei ?_; unfold fitB; constructor
 · intro h; obtain ⟨q,hq⟩:=zbV.1 h; obtain ⟨x,p,y,h1,h2,h3,h4,h5,h6,h7,h8⟩:=zsx hq; refine ⟨x,h1,hk,elig_iff.1 h2,q,p,y,h3,h4,h5,h6,?_,h8⟩; have hy:=((hs.okPaper (zfS h3).1).2.2.2.1 y (zbN h5)).1.1; unfold permB at h7; rw [if_neg (show ¬ y.Kind=2 by omega)] at h7; split at h7
   · omega
   · simp only [decide_eq_true_eq] at h7; omega
 · rintro ⟨x,h1,_,h2,q,p,y,h3,h4,h5,h6,h7,h8⟩
   unfold fitS; rw [h1]; simp only; rw [if_pos (elig_iff.2 h2),h3]; simp only; rw [if_pos h4,h5]; simp only
   have hpb:permB y e.Value=true:=by
    unfold permB; rw [if_neg (show ¬ y.Kind=2 by omega)]; split
    · rfl
    · simp only [decide_eq_true_eq]; omega
   rw [if_pos ⟨h6,hpb,h8⟩]; rfl
def zfk (s:zay):zay:=⟨s.Markers,s.Scripts,s.Papers,s.Schemes,[],s.Monitor⟩
theorem zng {s:zay} (h:zcM s):zcM (zfk s):=
 ⟨h.markers,h.scripts,h.papers,h.len,h.schemes,h.script,by simp [zfk],by intro j hj; simp [zfk] at hj,by simp [zfk],h.monitor,h.short,h.short2⟩
def markB (e:zab):Bool:=e.Kind == 0
theorem zxO (t:List Int):cw zm4 [.sl 1 (List.map zaj t)] []=some (zag true):=by
 refine zto t ?_; rw [c_Light,zam]; by_cases ht:(t.length:Int)≤600
 case neg=>rw [decide_eq_false ht,zca,zaF,c_sane,zam]; rfl
 rw [decide_eq_true ht,zbv,zaq,c_Roll,zyo]; obtain ⟨s,d1,e1,hs,hd1⟩:=c_Setup ⟨t,0⟩ ⟨by simp,by show t.length≤600; omega⟩; obtain ⟨a,d2,e2,ha,hpa,hd2⟩:=c_Events d1 s 30 hd1 hs (by omega); obtain ⟨b,d3,e3,hb,hpb,hd3⟩:=c_Full d2 s 50 hd2 hs; rw [e1,zsn]; simp only; rw [e2,zlJ]; simp only; rw [e3,zlJ]; simp only
 have hpl:∀ e∈a++b,e.Pages.length≤1000000:=fun e he=>by
  rcases zb3.1 he with h | h
  · have:=hpa e h; omega
  · have:=hpb e h; omega
 have hlen:(a++b).length≤150:=by rw [zfy]; omega
 have few:FewEv (a++b):=few_of (by omega) hpl; have hok:=hs.ok; have hds:s.Seeds.length≤1000000:=by have:=hok.seeds; omega
 have hdm:∀ y∈s.Seeds,y.Marks.length≤1000000:=fun y hy=>by obtain ⟨k,p,h1,h2⟩:=hok.seed y hy; obtain ⟨x,h3,h4⟩:=Option.bind_eq_some_iff.1 h1; have:=(hok.okPaper (zfS h4).1).2.2.1; have:=h2.1; omega
 rw [cPQ,zak trivial,znG,zak (by simp only [zal]; omega),cPQ,znG,← zkc]; generalize a++b=l at *; rw [zBn _ (by omega) hpl,ztf,cPQ]
 have hC:(canonS l).length≤150:=by have h1:=(zdJ l).length_eq; have h2:(keepS l).length≤(zbO l).length:=zqg _ _; have h3:=ztB l; omega
 have hCp:∀ e∈canonS l,e.Pages.length≤1000000:=fun e he=>hpl e (zmB.1 he).1
 have hCC:=zCk l; generalize canonS l=C at *; have fewC:FewEv C:=few_of (by omega) hCp; have fewF:∀ p:zab→Bool,FewEv (C.filter p):=fun p=>few_of (by have:=zxa p C; omega) (fun e he=>hCp e (zkb.1 he).1)
 have hlC:=zzT hok fewC; have hlP:=zzT (zng hok) (fewF markB); have hsu:=seeds_susp (s:=s) hCC
 have hPP:canonS (C.filter markB)=C.filter markB:=by have:=zuZ C markB; rw [hCC] at this; exact this
 obtain ⟨g1,g2,g3⟩:=zCE (s:=zfk s) rfl hPP (fun e he=>by simpa [markB] using (zkb.1 he).2); have hPl:(C.filter markB).length≤150:=by have:=zxa markB C; omega
 have hPp:∀ e∈C.filter markB,e.Pages.length≤1000000:=fun e he=>hCp e (zkb.1 he).1
 have hPk:∀ e∈C.filter markB,e.Kind=0:=fun e he=>by simpa [markB] using (zkb.1 he).2
 have lo1:∀ (n j:Nat) (x7 x8:List zab),j+n=C.length→x7.length≤j→x8.length≤j→x7++(C.drop j).filter (seedB s)=C.filter (seedB s)→x8++(C.drop j).filter markB=C.filter markB→zcX (s,d1) C (List.map zaa x7) (List.map zaa x8) j=some (zag true):=by
  intro n
  induction n with
  | zero =>
    intro j x7 x8 hj h7 h8 i7 i8; rw [zhF (by omega),List.filter_nil,znK] at i7 i8; subst i7 i8; refine zlS _ _ _ _ _ ?_; dsimp only; rw [zal,zaI (by omega),c_fold_d hok fewC,zti]; refine zkg (zbC (D:=zdd) (x:=((foldS s (C.filter (seedB s)),0),C.filter (seedB s))) (c_fold hok (fewF _)) _) ?_; refine zkg (zbC (D:=zdd) (x:=((foldS (zfk s) (C.filter markB),0),C.filter markB)) (c_fold (zng hok) (fewF _)) _) ?_; simp only [bne_self_eq_false,zaq]; rw [g1,zaI (by simp),hsu]; refine zkg (zbC (D:=zad) (x:=dec ((⟨[],(foldS s C).Suspensions⟩:zbz)=⟨[],(foldS s C).Suspensions⟩)) (c_rSame ⟨[],(foldS s C).Suspensions⟩ ⟨[],(foldS s C).Suspensions⟩ (by simp) hlC.2) _) ?_; rw [zbi rfl,zbv,zaq]; clear g1; generalize foldS (zfk s) (C.filter markB)=m at *; have last:lastS (zfk s) (C.filter markB)=((C.filter markB).filter (fitB (zfk s))).foldl (fun m e=>mput (key3 e) e.Value m) []:=rfl; generalize C.filter markB=P at *
    have fin:zey ((m,0),P) (List.map zek (lastS (zfk s) P)) 0=some (zag true):=by
     refine zdi m.Given (fun i _=>zey ((m,0),P) (List.map zek (lastS (zfk s) P)) i=some (zag true)) ?_ ?_
     · refine zlU _ _ _ ?_; dsimp only; rw [zal,zaI (by omega),c_sane,zam]; rfl
     · intro i hi r hr ih; refine zlU _ _ _ ?_; dsimp only; have hg:=g3 _ (zbc hi); unfold keyG at hg; rw [zal,zaA (by omega),cPQ,za2,zkj,zaz hi,zaV,zyR,hg,w6Q]; simp only [zhE,zbv,zaq,zff,bne_self_eq_false]; exact ih
    have lo2:∀ (n j:Nat) (x:List ((Int×Int×Int)×Int)),j+n=P.length→((P.drop j).filter (fitB (zfk s))).foldl (fun m e=>mput (key3 e) e.Value m) x=lastS (zfk s) P→zex (s,d1) (List.map zaa P) ((m,0),P) (List.map zek x) j=some (zag true):=by
     intro n
     induction n with
     | zero=>intro j x hj hx; rw [zhF (by omega),List.filter_nil,List.foldl_nil] at hx; subst hx; refine zlT _ _ _ _ _ ?_; dsimp only; rw [zal,zal,zal,zaI (by omega),g2,show (((m.Given.length:Nat):Int) != (m.Given.length:Int))=false by simp,zaq]; exact fin
     | succ n ih =>
       intro j x hj hx; have hlt:j < P.length:=by omega
       refine zlT _ _ _ _ _ ?_; dsimp only; rw [zal,zaA (by omega),cPQ,cPQ,za2,zbL,zbD,zaz hlt,zaV]; have hf:=zBu (zfk s) (zng hok) P[j] (zng hok).short2 (hPp _ (zbc hlt)); rw [fits_iff (zng hok) (hPk _ (zbc hlt))] at hf; refine zkg (zbC (D:=zad) (x:=fitB (zfk s) P[j]) hf _) ?_; rw [w6Q,show ((j:Int)+1)=((j+1:Nat):Int) by omega]; rw [zdn hlt,zl7] at hx
       cases hb:fitB (zfk s) P[j] with
       | false=>rw [hb,iNs] at hx; rw [zaq]; exact ih (j+1) x (by omega) hx
       | true=>rw [hb,if_pos rfl,zjo] at hx; rw [zaF,zy6]; exact ih (j+1) _ (by omega) hx
    exact lo2 P.length 0 [] (by omega) (by rw [zmy]; rfl)
  | succ n ih =>
    intro j x7 x8 hj h7 h8 i7 i8; have hlt:j < C.length:=by omega
    refine zlS _ _ _ _ _ ?_; dsimp only; rw [zal,zaA (by omega),cPQ,za2,zbD,zaz hlt,zaV,zuX _ _ hds hdm,zrA]; rw [zdn hlt,zl7] at i7 i8
    have go:seedB s C[j]=true→zeT (s,d1) C (List.map zaa x7) (List.map zaa x8) j C[j]=some (zag true):=fun hb=>by
     rw [hb,if_pos rfl] at i7; refine zpI _ _ _ _ _ _ ?_; rw [zak rfl,zak (by simp only [zal]; omega),zak rfl,w6Q,show ((j:Int)+1)=((j+1:Nat):Int) by omega]
     cases hm:markB C[j] with
     | true=>rw [hm,if_pos rfl] at i8; rw [show (C[j].Kind == 0)=true from hm,zaF,zak rfl,zak (by simp only [zal]; omega),zak rfl,zcl zaa,zcl zaa]; exact ih (j+1) (x7++[C[j]]) (x8++[C[j]]) (by omega) (by simp; omega) (by simp; omega) (by rw [← i7]; simp) (by rw [← i8]; simp)
     | false=>rw [hm,iNs] at i8; rw [show (C[j].Kind == 0)=false from hm,zaq,zcl zaa]; exact ih (j+1) (x7++[C[j]]) x8 (by omega) (by simp; omega) (by omega) (by rw [← i7]; simp) i8
    cases b1:(C[j].Kind != 0) with
    | true=>rw [zaF]; exact go (by unfold seedB; rw [b1]; rfl)
    | false =>
    rw [zaq]
    cases b2:(seedOf s.Seeds C[j].Script).isSome with
    | true=>obtain ⟨q,hq⟩:=zbV.1 b2; rw [hq]; simp only [seedR,zaF]; exact go (by unfold seedB; rw [b2,Bool.or_true])
    | false =>
      have hq:seedOf s.Seeds C[j].Script=none:=by simpa using b2
      rw [hq]; simp only [seedR,zaq]; have hm:markB C[j]=true:=by unfold markB; simpa using b1
      rw [hm,if_pos rfl] at i8; rw [show seedB s C[j]=false by unfold seedB; rw [b1,b2]; rfl,iNs] at i7; rw [show (C[j].Kind == 0)=true from hm,zaF,zak trivial,zak (by simp only [zal]; omega),zak trivial,zcl zaa,w6Q,show ((j:Int)+1)=((j+1:Nat):Int) by omega]; exact ih (j+1) x7 (x8++[C[j]]) (by omega) (by omega) (by simp; omega) i7 (by rw [← i8]; simp)
 exact lo1 C.length 0 [] [] (by omega) (by simp) (by simp) (by simp) (by simp)
end Go.Proofs.YtikogkgdkdmljaaGreat
namespace Go.Ab
open Go.RowKit
abbrev Old (w:World):Nat→Prop:=fun g=>g < w.heap.size
def Rd (P:Program) (w:World) (t:TypeId) (n:Nat) {T:Type} (nT:T→List AV):Prop:=
 P.cellsOf t=n∧(∀ v,(nT v).length=n)∧∀ (H:Type) (enc:TypeId×Value→H) (base:Nat) (spare:Nat→Bool) (held:Bool) (fuel:Nat) (cs:List Value) (x:DataW H×List MemPlace),DataW.trod enc P w base spare held fuel t cs=some x→∃ v:T,cs.length=n∧∀ (j:Nat) (c:AV) (y:Value),(nT v)[j]?=some c→cs[j]?=some y→CRel (Old w) w c y∧y.oneCell'=true
theorem rd_int {P:Program} {w:World} {t:TypeId} {k:IntKind} (hc:P.cellsOf t=1) (ht:P.underlying t=some (.int k)):Rd P w t 1 (fun n:Int=>[AV.v (.int k n)]):=by
 refine ⟨hc,fun _=>rfl,fun H enc base spare held fuel cs x h=>?_⟩; obtain ⟨n,rfl,_,_⟩:=DataW.trod_int ht h; refine ⟨n,rfl,fun j c y h1 h2=>?_⟩
 cases j with
 | zero=>simp at h1 h2; subst h1; subst h2; exact ⟨.v _,rfl⟩
 | succ j=>simp at h1
theorem list_of {T:Type} {R:Nat→T→Prop}:∀ n:Nat,(∀ i,i < n→∃ v,R i v)→∃ l:List T,l.length=n∧∀ i v,l[i]?=some v→R i v
 | 0,_=>⟨[],rfl,fun i v h=>by simp at h⟩
 | n+1,h=>by
   obtain ⟨l,h1,h2⟩:=list_of n (fun i hi=>h i (by omega)); obtain ⟨v,hv⟩:=h n (by omega); refine ⟨l++[v],by simp [h1],fun i u hu=>?_⟩; by_cases hi:i < n
   · rw [znH (by omega)] at hu; exact h2 i u hu
   · have hlt:=(zbt.1 hu).1; simp at hlt; have:i=l.length:=by omega
     subst this; rw [List.getElem?_append_right (by omega)] at hu; simp at hu; subst hu; rw [h1]; exact hv
theorem rd_slice {P:Program} {w:World} {t e:TypeId} {n:Nat} {T:Type} {nT:T→List AV} (hc:P.cellsOf t=1) (ht:P.underlying t=some (.slice e)) (hn:0 < n) (he:Rd P w e n nT):Rd P w t 1 (fun l:List T=>[AV.sl n (l.map nT)]):=by
 refine ⟨hc,fun _=>rfl,fun H enc base spare held fuel cs x h=>?_⟩
 have done:∀ (l:List T) (y:Value),CRel (Old w) w (.sl n (l.map nT)) y→y.oneCell'=true→∃ v:List T,[y].length=1∧∀ (j:Nat) (c:AV) (z:Value),[AV.sl n (v.map nT)][j]?=some c→[y][j]?=some z→CRel (Old w) w c z∧z.oneCell'=true:=by
  intro l y hy h1; refine ⟨l,rfl,fun j c z hj hz=>?_⟩
  cases j with
  | zero=>simp at hj hz; subst hj; subst hz; exact ⟨hy,h1⟩
  | succ j=>simp at hj
 rcases DataW.trod_slice ht h with ⟨rfl,_⟩ | ⟨a,len,cap,elems,rest,m,rfl,rfl,_,hb,hl,_,hlen,hel,_,_⟩
 · exact done [] _ (CRel.nil_sl n) rfl
 · have each:∀ i,i < len→∃ v:T,a.block < w.heap.size∧∀ (j:Nat) (c:AV),(nT v)[j]?=some c→∃ y,w.cell? (a.add (i*n+j))=some y∧CRel (Old w) w c y∧y.oneCell'=true:=by
    intro i hi; have h1:=hel i hi; rw [zaz (by omega),he.1] at h1; obtain ⟨cs',h2,h3⟩:=Option.bind_eq_some_iff.1 h1; obtain ⟨v,h4,h5⟩:=he.2.2 H enc base spare held m cs' _ h3; obtain ⟨h6,h7,h8⟩:=World.cells?_some h2; have hblk:=World.cells?_block h2 hn; rw [zim] at hblk; refine ⟨v,hblk,fun j c hj=>?_⟩; have hjn:j < n:=by have:=(zbt.1 hj).1; rw [he.2.1] at this; exact this
    have h9:=h8 j hjn; rw [Go.Addr.add_add] at h9; have h10:cs'[j]?=some (cs'[j]'(by omega)):=zaz (by omega); refine ⟨cs'[j]'(by omega),by rw [h9,h10],h5 j c _ hj h10⟩
   obtain ⟨l,hll,hlr⟩:=list_of len each; refine done l _ (.sl n _ (some a) len cap (fun i j=>(w.cell? (a.add (i*n+j))).getD undef) (by simp; omega) hl (fun cs hcs=>by obtain ⟨v,_,rfl⟩:=zbB.1 hcs; exact he.2.1 v) ?_ ?_) rfl
   · cases l with
     | nil=>left; rfl
     | cons v l'=>right; refine ⟨a,rfl,(hlr 0 v rfl).1,fun i j cs c h1 h2=>?_⟩; rw [zcY] at h1; obtain ⟨u,hu,rfl⟩:=Option.map_eq_some_iff.1 h1; obtain ⟨y,hy,hr,ho⟩:=(hlr i u hu).2 j c h2; rw [hy]; exact ⟨rfl,ho⟩
   · intro i j cs c h1 h2; rw [zcY] at h1; obtain ⟨u,hu,rfl⟩:=Option.map_eq_some_iff.1 h1; obtain ⟨y,hy,hr,ho⟩:=(hlr i u hu).2 j c h2; rw [hy]; exact hr
theorem arg_cell {P:Program} {w:World} {t:TypeId} {T:Type} {f:T→AV} (hr:Rd P w t 1 (fun v=>[f v])) {H:Type} {enc:TypeId×Value→H} {base:Nat} {spare:Nat→Bool} {held:Bool} {y:Value} (hy:y.cells.toList=[y]) {d:DataW H} {ps:List MemPlace}
  (h:DataW.Trod enc P w base spare held t y d ps) {κ:Kap} {D:Nat→Prop}:∃ v:T,VRel (Old w) κ D w (f v) y:=by
 obtain ⟨fuel,hf⟩:=h; rw [hy] at hf; obtain ⟨v,_,h2⟩:=hr.2.2 H enc base spare held fuel _ _ hf; exact ⟨v,.c (h2 0 _ _ rfl rfl).1⟩
end Go.Ab
end
