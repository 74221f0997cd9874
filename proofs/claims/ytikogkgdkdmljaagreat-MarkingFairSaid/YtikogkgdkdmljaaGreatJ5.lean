/- What the log keeps depends on the set of events alone; the reference keeps the same. -/
import Derived.Test.YtikogkgdkdmljaaGreatJ4
import Derived.Test.YtikogkgdkdmljaaGreatAb9
import Derived.OpenShut
import Derived.DataElems
import Derived.ChangeArms
set_option linter.unusedSimpArgs false
set_option linter.unusedVariables false
noncomputable section
namespace Go.Proofs.YtikogkgdkdmljaaGreat
open Go.Ab
set_option maxRecDepth 10000
abbrev idE (e:zab):Int×Int:=(e.Stamp.Source,e.Stamp.Seq)
theorem zef {κ ν:Type} [DecidableEq κ] (k:κ) (v:ν):∀ l:List (κ×ν),mfind k (mput k v l)=some v
 | []=>by simp [mput,mfind]
 | p :: r=>by
   unfold mput; split
   · simp [mfind]
   · rename_i h; unfold mfind; rw [if_neg h]; exact zef k v r
theorem zev {κ ν:Type} [DecidableEq κ] {k j:κ} (v:ν) (h:j≠k):∀ l:List (κ×ν),mfind j (mput k v l)=mfind j l
 | []=>by simp [mput,mfind,Ne.symm h]
 | p :: r=>by
   unfold mput; split
   · rename_i hp; simp only [mfind]; rw [if_neg (Ne.symm h),if_neg (fun e=>h (by rw [← e,hp]))]
   · simp only [mfind]; rw [zev v h r]
theorem zp5 {κ ν:Type} [DecidableEq κ]:∀ {l:List (κ×ν)} {p:κ×ν},(l.map (·.1)).Nodup→p∈l→mfind p.1 l=some p.2
 | [],_,_,h=>by cases h
 | x :: r,p,hn,h=>by
   obtain ⟨n1,n2⟩:=zfM.1 hn; unfold mfind; rcases za6.1 h with e | h
   · rw [e,if_pos rfl]
   · rw [if_neg (fun e=>n1 (zbB.2 ⟨p,h,e.symm⟩))]; exact zp5 n2 h
def Said (l:List zab) (i:Nat) (m:zcO):Prop:=∀ k,match mfind k m with
 | none=>∀ j e,j < i→l[j]?=some e→eventB e=true→idE e≠k
 | some g=>g.disputed=true↔∃ j e,j < i∧l[j]?=some e∧eventB e=true∧idE e=k∧l[g.first.toNat]?≠some e
theorem zyI {l:List zab} {m:zcO} {i:Nat} {e:zab} (h:Said l i m) (he:l[i]?=some e):Said l (i+1) (zdx l m i e):=by
 intro k; have hk:=h k; unfold zdx; by_cases hv:eventB e=true
 case neg =>
  rw [if_neg hv]
  cases hf:mfind k m with
  | none =>
    rw [hf] at hk; intro j f hj hjf hvf; by_cases hji:j=i
    · subst hji; rw [he] at hjf; injection hjf with hjf; subst hjf; exact absurd hvf hv
    · exact hk j f (by omega) hjf hvf
  | some g =>
    rw [hf] at hk; refine hk.trans ⟨fun ⟨j,f,h1,h2⟩=>⟨j,f,by omega,h2⟩,fun ⟨j,f,h1,h2,h3,h4⟩=>⟨j,f,?_,h2,h3,h4⟩⟩; by_cases hji:j=i
    · subst hji; rw [he] at h2; injection h2 with h2; subst h2; exact absurd h3 hv
    · omega
 rw [if_pos hv]; by_cases hke:k=idE e
 · subst hke
   cases hf:mfind (idE e) m with
   | none =>
     simp only; rw [show (e.Stamp.Source,e.Stamp.Seq)=idE e from rfl,zef]; rw [hf] at hk; simp only [zcm,false_iff]
     rintro ⟨j,f,h1,h2,h3,h4,h5⟩
     by_cases hji:j=i
     · subst hji; exact h5 (by rw [show ((j:Int)).toNat=j from rfl]; exact h2)
     · exact hk j f (by omega) h2 h3 h4
   | some g =>
     simp only; rw [show (e.Stamp.Source,e.Stamp.Seq)=idE e from rfl,zef]; rw [hf] at hk; simp only; by_cases hs:l[g.first.toNat]?=some e
     · rw [if_pos hs]; refine hk.trans ⟨fun ⟨j,f,h1,h2⟩=>⟨j,f,by omega,h2⟩,fun ⟨j,f,h1,h2,h3,h4,h5⟩=>⟨j,f,?_,h2,h3,h4,h5⟩⟩; by_cases hji:j=i
       · subst hji; rw [he] at h2; exact absurd (hs.trans h2) h5
       · omega
     · rw [if_neg hs]; exact ⟨fun _=>⟨i,e,by omega,he,hv,rfl,hs⟩,fun _=>rfl⟩
 · have other:∀ v:za3,mfind k (mput (e.Stamp.Source,e.Stamp.Seq) v m)=mfind k m:=fun v=>zev v hke m
   have goal:∀ m':zcO,mfind k m'=mfind k m→(match mfind k m' with
     | none=>∀ j e,j < i+1→l[j]?=some e→eventB e=true→idE e≠k
     | some g=>g.disputed=true↔∃ j e,j < i+1∧l[j]?=some e∧eventB e=true∧idE e=k∧l[g.first.toNat]?≠some e):=by
    intro m' hm; rw [hm]
    cases hf:mfind k m with
    | none =>
      rw [hf] at hk; intro j f hj hjf hvf; by_cases hji:j=i
      · subst hji; rw [he] at hjf; injection hjf with hjf; subst hjf; exact fun h=>hke h.symm
      · exact hk j f (by omega) hjf hvf
    | some g =>
      rw [hf] at hk; refine hk.trans ⟨fun ⟨j,f,h1,h2⟩=>⟨j,f,by omega,h2⟩,fun ⟨j,f,h1,h2,h3,h4⟩=>⟨j,f,?_,h2,h3,h4⟩⟩; by_cases hji:j=i
      · subst hji; rw [he] at h2; injection h2 with h2; subst h2; exact absurd h4.1.symm hke
      · omega
   cases mfind (e.Stamp.Source,e.Stamp.Seq) m with
   | none=>exact goal _ (other _)
   | some g=>exact goal _ (other _)
theorem zqy {l:List zab}:∀ {r:List zab} {i:Nat} {m:zcO},Said l i m→l.drop i=r→Said l (i+r.length) (zcI l r i m)
 | [],i,m,h,_=>h
 | e :: r,i,m,h,hd=>by
   unfold zcI
   have he:l[i]?=some e:=by have:=congrArg (·[0]?) hd; simpa using this
   have:=zqy (zyI h he) (r:=r) (by
    have:=congrArg (List.drop 1) hd
    simpa [List.drop_drop] using this)
   rw [zfN,show i+(r.length+1)=i+1+r.length by omega]; exact this
theorem zBp (l:List zab):Said l l.length (zbN l):=by have:=zqy (l:=l) (r:=l) (i:=0) (m:=[]) (fun k=>by simp [mfind]) rfl; rw [zbK] at this; exact this
def Stays (l:List zab) (e:zab):Prop:=e∈l∧eventB e=true∧∀ f∈l,eventB f=true→idE f=idE e→f=e
theorem keep_iff {l:List zab} {e:zab}:e∈keepS l↔Stays l e:=by
 have hK:=zmO l; have hS:=zBp l; constructor
 · intro h; obtain ⟨p,hp,hpe⟩:=zpl.1 (show e∈(zbN l).filterMap (pickG l) from h); obtain ⟨e',h1,h2,h3⟩:=hK.2 p hp; unfold pickG at hpe; split at hpe
   · cases hpe
   rename_i hd; rw [h1] at hpe; injection hpe with hpe; subst hpe; refine ⟨zbU h1,h3,fun f hf hvf hid=>?_⟩; have:=hS p.1; rw [zp5 hK.1 hp] at this; simp only at this; obtain ⟨j,hj,hjf⟩:=zlK.1 hf; by_cases hfe:l[p.2.first.toNat]?=some f
   · rw [h1] at hfe; injection hfe with hfe; exact hfe.symm
   · exact absurd (this.2 ⟨j,f,hj,by rw [zaA hj,hjf],hvf,by rw [hid]; exact h2,hfe⟩) hd
 · rintro ⟨h1,h2,h3⟩
   obtain ⟨j,hj,hje⟩:=zlK.1 h1; have hje':l[j]?=some e:=by rw [zaA hj,hje]
   have:=hS (idE e)
   cases hf:mfind (idE e) (zbN l) with
   | none=>rw [hf] at this; exact absurd rfl (this j e hj hje' h2)
   | some g =>
     rw [hf] at this; simp only at this; have hp:=zic hf; obtain ⟨e',q1,q2,q3⟩:=hK.2 _ hp; have he':e'=e:=h3 e' (zbU q1) q3 q2; subst he'; show e'∈(zbN l).filterMap (pickG l); refine zpl.2 ⟨_,hp,?_⟩; unfold pickG; rw [if_neg]
     · exact q1
     · intro hd; obtain ⟨i,f,r1,r2,r3,r4,r5⟩:=this.1 hd; have:=h3 f (zbU r2) r3 r4; subst this; exact r5 q1
theorem keep_nodup (l:List zab):(keepS l).Nodup:=by refine List.Pairwise.imp ?_ (zwY l); intro a b h e; exact h (by rw [e])
theorem zyT {l:List zab} {e:zab}:e∈canonS l↔Stays l e:=by rw [(zdW l).mem_iff,keep_iff]
def Alike (fb:DMap) (m:zcO):Prop:=∀ k,mfind k fb.1=(mfind k m).map (·.first)∧(mfind k fb.2).getD false=((mfind k m).map (·.disputed)).getD false
theorem step_alike {l:List zab} {i:Nat} {e:zab} {fb:DMap} {m:zcO} (h:Alike fb m):Alike (dstep l i e fb) (zdx l m i e):=by
 unfold dstep zdx; by_cases hv:eventB e=true
 case neg=>rw [if_neg (fun q=>hv (ok_eventB q)),if_neg hv]; exact h
 rw [if_pos (zoi hv),if_pos hv]; obtain ⟨h1,h2⟩:=h (dKey e)
 cases hf:mfind (dKey e) m with
 | none =>
   rw [hf] at h1; rw [h1]
   try rw [show mfind (e.Stamp.Source,e.Stamp.Seq) m=none from hf]
   simp only [Option.map_none]; intro k; by_cases hk:k=dKey e
   · subst hk; rw [zef,show mfind (dKey e) (mput (e.Stamp.Source,e.Stamp.Seq) (⟨(i:Int),false⟩:za3) m)=some ⟨i,false⟩ from zef _ _ _]; refine ⟨rfl,?_⟩; rw [h2,hf]; rfl
   · rw [zev _ hk,show mfind k (mput (e.Stamp.Source,e.Stamp.Seq) (⟨(i:Int),false⟩:za3) m)=mfind k m from zev _ hk _]; exact h k
 | some g =>
   rw [hf] at h1 h2; rw [h1]
   try rw [show mfind (e.Stamp.Source,e.Stamp.Seq) m=some g from hf]
   simp only [zc6]; intro k; by_cases hs:l[g.first.toNat]?=some e
   · rw [if_pos hs,if_pos hs]; by_cases hk:k=dKey e
     · subst hk; rw [show mfind (dKey e) (mput (e.Stamp.Source,e.Stamp.Seq) (⟨g.first,g.disputed⟩:za3) m)=some ⟨g.first,g.disputed⟩ from zef _ _ _]; exact ⟨h1,h2⟩
     · rw [show mfind k (mput (e.Stamp.Source,e.Stamp.Seq) (⟨g.first,g.disputed⟩:za3) m)=mfind k m from zev _ hk _]; exact h k
   · rw [if_neg hs,if_neg hs]; by_cases hk:k=dKey e
     · subst hk; rw [show mfind (dKey e) (mput (e.Stamp.Source,e.Stamp.Seq) (⟨g.first,true⟩:za3) m)=some ⟨g.first,true⟩ from zef _ _ _]; exact ⟨h1,by rw [zef]; rfl⟩
     · rw [show mfind k (mput (e.Stamp.Source,e.Stamp.Seq) (⟨g.first,true⟩:za3) m)=mfind k m from zev _ hk _]; exact ⟨(h k).1,by rw [zev _ hk]; exact (h k).2⟩
theorem zxU {l:List zab}:∀ {r:List zab} {i:Nat} {fb:DMap} {m:zcO},Alike fb m→Alike (dfold l r i fb) (zcI l r i m)
 | [],_,_,_,h=>h
 | e :: r,i,fb,m,h=>by unfold dfold zcI; exact zxU (step_alike h)
theorem zud {fb:DMap} {m:zcO} (h:Alike fb m):∀ {l:List zab} {i:Nat} {e:zab},e∈ckeep fb l i↔∃ j,l[j]?=some e∧∃ g,mfind (dKey e) m=some g∧g.first=((i+j:Nat):Int)∧g.disputed=false
 | [],i,e=>by simp [ckeep]
 | x :: r,i,e=>by
   have cond:(mfind (dKey x) fb.1=some (i:Int)∧(mfind (dKey x) fb.2).getD false=false)↔∃ g,mfind (dKey x) m=some g∧g.first=(i:Int)∧g.disputed=false:=by
    obtain ⟨h1,h2⟩:=h (dKey x); rw [h1,h2]
    cases hf:mfind (dKey x) m with
    | none=>simp
    | some g=>simp
   have ih:=zud h (l:=r) (i:=i+1) (e:=e)
   have tail:(∃ j,r[j]?=some e∧∃ g,mfind (dKey e) m=some g∧g.first=((i+1+j:Nat):Int)∧g.disputed=false)↔∃ j,0 < j∧(x :: r)[j]?=some e∧∃ g,mfind (dKey e) m=some g∧g.first=((i+j:Nat):Int)∧g.disputed=false:=by
    constructor
    · rintro ⟨j,h1,g,h2,h3,h4⟩
      exact ⟨j+1,by omega,by simpa using h1,g,h2,by rw [h3]; omega,h4⟩
    · rintro ⟨j,h0,h1,g,h2,h3,h4⟩
      obtain ⟨j,rfl⟩:∃ q,j=q+1:=⟨j - 1,by omega⟩
      exact ⟨j,by simpa using h1,g,h2,by rw [h3]; omega,h4⟩
   unfold ckeep; split
   · rename_i hc; rw [za6,ih,tail]; constructor
     · rintro (rfl | ⟨j,_,h1⟩)
       · exact ⟨0,rfl,by simpa using cond.1 hc⟩
       · exact ⟨j,h1⟩
     · rintro ⟨j,h1,h2⟩
       cases j with
       | zero=>simp only [zez,zaw] at h1; exact .inl h1.symm
       | succ j=>exact .inr ⟨j+1,by omega,h1,h2⟩
   · rename_i hc; rw [ih,tail]; constructor
     · rintro ⟨j,_,h1⟩
       exact ⟨j,h1⟩
     · rintro ⟨j,h1,h2⟩
       cases j with
       | zero=>simp only [zez,zaw] at h1; subst h1; exact absurd (cond.2 (by simpa using h2)) hc
       | succ j=>exact ⟨j+1,by omega,h1,h2⟩
theorem zuc {fb:DMap} {m:zcO} (h:Alike fb m):∀ {l:List zab} {i:Nat},(ckeep fb l i).Pairwise (fun a b=>idE a≠idE b)
 | [],_=>by simp [ckeep]
 | x :: r,i=>by
   unfold ckeep; split
   · rename_i hc; refine zj2.2 ⟨fun y hy e=>?_,zuc h⟩; obtain ⟨j,_,g,h1,h2,_⟩:=(zud h).1 hy; have:=(h (dKey x)).1; rw [hc.1,show dKey x=dKey y from e,h1] at this; simp only [zc6,zaw] at this; omega
   · exact zuc h
theorem ckeep_perm (l:List zab):List.Perm (ckeep (dispF l) l 0) (keepS l):=by
 have hA:Alike (dispF l) (zbN l):=zxU (fun k=>by simp [mfind]); refine (zwp ?_ (keep_nodup l)).2 (fun e=>?_)
 · refine List.Pairwise.imp ?_ (zuc hA); intro a b h q; exact h (by rw [q])
 · rw [zud hA]; have hK:=zmO l; constructor
   · rintro ⟨j,h1,g,h2,h3,h4⟩
     show e∈(zbN l).filterMap (pickG l); refine zpl.2 ⟨_,zic h2,?_⟩; unfold pickG; simp only [h4,zcm,if_false]; rw [h3,zbK]; exact h1
   · intro h; obtain ⟨p,hp,hpe⟩:=zpl.1 (show e∈(zbN l).filterMap (pickG l) from h); obtain ⟨e',h1,h2,h3⟩:=hK.2 p hp; unfold pickG at hpe; split at hpe
     · cases hpe
     rename_i hd; have q:=hpe; rw [h1] at q; injection q with q; subst q; have:=zux l p hp; refine ⟨p.2.first.toNat,hpe,p.2,?_,by omega,by simpa using hd⟩; rw [show dKey e'=p.1 from h2]; exact zp5 hK.1 hp
theorem zAr (l:List zab) (hl:l.length≤2000) (hp:∀ e∈l,e.Pages.length≤1000000):cw zhF [.sl 9 (List.map zaa l)] []=some (zcJ (canonS l,0)):=by obtain ⟨r,h1,h2,h3⟩:=zA9 l hl hp; rw [h1,canon_of (h2.trans (ckeep_perm l)) (h3.imp fun {a b} h=>by unfold leE at h; simpa using h)]
theorem zAq (l:List zab) (hl:l.length≤2000) (hp:∀ e∈l,e.Pages.length≤1000000):cw zlP [.sl 9 (List.map zaa l)] []=some (zlW (canonS l)):=by refine zwI l ?_; rw [zAr l hl hp,zma]; rfl
def deskE (s:zay) (i:Nat) (d:zah) (e:zab):zah:=
 if e.Kind=1 then (if e.Marker.toNat=i then reinS e.Stamp d else d)
 else if e.Kind=0∧e.Stamp.Source.toNat=i then (match fitS s e with
  | some q=>(match seedS s e.Script,s.Papers[q]? with
    | some sd,some p=>noteS s p sd e d
    | none,_=>{ d with marks:=d.marks++[⟨e,d.watch.Suspended⟩] }
    | _,_=>d)
  | none=>d)
 else d
theorem evS_fst (s:zay) (st:Desks×Reop) (e:zab) (i:Nat):(evS s st e).1 i=(st.1 i).map (fun d=>deskE s i d e):=by
 have idm:∀ (f:zah→zah),(∀ d,f d=d)→st.1 i=(st.1 i).map f:=fun f h=>by
  cases st.1 i with
  | none=>rfl
  | some d=>simp [h d]
 by_cases k1:e.Kind=1
 · have hd:∀ d,deskE s i d e=if e.Marker.toNat=i then reinS e.Stamp d else d:=fun d=>by unfold deskE; rw [if_pos k1]
   unfold evS; rw [if_pos k1]; by_cases hi:e.Marker.toNat=i
   · simp only [hd,hi,if_true]
     cases h:st.1 i with
     | none=>simp [h]
     | some d=>simp [upd]
   · simp only [hd,hi,if_false]
     cases h:st.1 e.Marker.toNat with
     | none=>exact idm _ fun d=>rfl
     | some d0=>simp only [upd]; rw [if_neg (show ¬ i=e.Marker.toNat from fun h=>hi h.symm)]; exact idm _ fun d=>rfl
 by_cases k0:e.Kind=0
 case neg =>
  have hd:∀ d,deskE s i d e=d:=fun d=>by unfold deskE; rw [if_neg k1,if_neg (fun h=>k0 h.1)]
  have:(evS s st e).1=st.1:=by
   unfold evS; rw [if_neg k1]; split
   · rfl
   · rfl
  rw [this]; exact idm _ hd
 have k2:¬ e.Kind=2:=by omega
 unfold evS; rw [if_neg k1,if_neg k2,if_pos k0]; by_cases hi:e.Stamp.Source.toNat=i
 · have hd:∀ d,deskE s i d e=(match fitS s e with
    | some q=>(match seedS s e.Script,s.Papers[q]? with
      | some sd,some p=>noteS s p sd e d
      | none,_=>{ d with marks:=d.marks++[⟨e,d.watch.Suspended⟩] }
      | _,_=>d)
    | none=>d):=fun d=>by unfold deskE; rw [if_neg k1,if_pos ⟨k0,hi⟩]
   simp only [hd,hi]
   cases h:st.1 i with
   | none=>simp [h]
   | some d =>
     cases hf:fitS s e with
     | none=>simp [h]
     | some q =>
       cases hs:seedS s e.Script with
       | none=>simp [upd]
       | some sd =>
         cases hp:s.Papers[q]? with
         | none=>simp [h,hp]
         | some p=>simp [upd,hp]
 · have hd:∀ d,deskE s i d e=d:=fun d=>by unfold deskE; rw [if_neg k1,if_neg (fun h=>hi h.2)]
   rw [show (fun d=>deskE s i d e)=id from funext hd,Option.map_id]
   cases h:st.1 e.Stamp.Source.toNat with
   | none=>rfl
   | some d0 =>
     cases hf:fitS s e with
     | none=>rfl
     | some q =>
       cases hs:seedS s e.Script with
       | none=>simp only [upd]; rw [if_neg (show ¬ i=e.Stamp.Source.toNat from fun h=>hi h.symm)]; rfl
       | some sd =>
         cases hp:s.Papers[q]? with
         | none=>simp only [hp]; rfl
         | some p=>simp only [hp,upd]; rw [if_neg (show ¬ i=e.Stamp.Source.toNat from fun h=>hi h.symm)]; rfl
theorem walk_fst (s:zay):∀ (ev:List zab) (st:Desks×Reop) (i:Nat),(ev.foldl (evS s) st).1 i=(st.1 i).map (fun d=>ev.foldl (deskE s i) d)
 | [],st,i=>by simp
 | e :: r,st,i=>by rw [zuR,walk_fst s r (evS s st e) i,evS_fst,Option.map_map]; rfl
theorem walk_at (s:zay) (ev:List zab) (i:Nat):(walkS s ev).1 i=(seats s.Markers i).map (fun d=>ev.foldl (deskE s i) d):=walk_fst s ev _ i
theorem zqu (l:List zab):(canonS l).Pairwise (fun a b=>lessS a.Stamp b.Stamp=true):=by
 have h1:=zt9 l
 have h2:(canonS l).Pairwise (fun a b=>idE a≠idE b):=by refine (List.Perm.pairwise_iff (fun {a b} h=>(Ne.symm h:_)) (zdW l)).2 ?_; exact zwY l
 refine (h1.and h2).imp ?_; intro a b ⟨q1,q2⟩
 cases h:lessS a.Stamp b.Stamp with
 | true=>rfl
 | false=>exact absurd (by unfold idE; rw [lessS_eq h q1]) q2
theorem lessS_tr {a b c:zaN} (h1:lessS a b=true) (h2:lessS b c=true):lessS a c=true:=by
 unfold lessS at *
 grind
theorem walk_ind {s:zay} {ev:List zab} {i:Nat} (Q:List zab→zah→Prop)
  (h0:∀ m∈s.Markers,m.ID.toNat=i→Q [] (desk0 m.Level))
  (h1:∀ (pre:List zab) (e:zab) (post:List zab) (d:zah),ev=pre++e :: post→Q pre d→Q (pre++[e]) (deskE s i d e))
  {d:zah} (h:(walkS s ev).1 i=some d):Q ev d:=by
 rw [walk_at] at h
 cases hs:seats s.Markers i with
 | none=>rw [hs] at h; cases h
 | some d0 =>
   rw [hs] at h; injection h with h; obtain ⟨m,m1,m2,rfl⟩:=zuJ _ _ _ hs
   have key:∀ (post pre:List zab) (d:zah),ev=pre++post→Q pre d→Q ev (post.foldl (deskE s i) d):=by
    intro post
    induction post with
    | nil=>intro pre d e q; rw [e,zpD]; exact q
    | cons x r ih=>intro pre d e q; exact ih (pre++[x]) _ (by rw [e]; simp) (h1 pre x r d e q)
   rw [← h]; exact key ev [] _ (by simp) (h0 m m1 m2)
set_option maxRecDepth 20000
theorem few_of {l:List zab} (h:l.length < 200) (hp:∀ e∈l,e.Pages.length≤1000000):FewEv l:=
 ⟨by omega,by
  have h1:=zxY l; have h2:(keepS l).length≤(zbN l).length:=zsh _ _
  omega,hp⟩
def zyW (m:zbX) (sc pa:Int):List zbv:=m.Given.filter fun g=>g.Script == sc && g.Part == pa
theorem c_Counting (m:zbX) (sc pa:Int) (hl:m.Given.length≤1000000):cw zj9 [.agg (zdd m),I sc,I pa] []=some (zg9 (zyW m sc pa)):=by
 refine zui m sc pa ?_
 have key:∀ (n i:Nat) (out:List zbv),i+n=m.Given.length→out.length≤i→zdZ m sc pa (List.map zbj out) i=some (zg9 (out++(m.Given.drop i).filter fun g=>g.Script == sc && g.Part == pa)):=by
  intro n
  induction n with
  | zero=>intro i out hi ho; refine zmY _ _ _ _ _ ?_; rw [zan,zaQ (by omega),zao rfl,zim (by omega)]; simp; rfl
  | succ n ih =>
    intro i out hi ho; have hlt:i < m.Given.length:=by omega
    refine zmY _ _ _ _ _ ?_; rw [zan,zaD (by omega),cPQ,za2,zmE,zaA hlt,zaV,w6Q,show ((i:Int)+1)=((i+1:Nat):Int) by omega,zdC hlt,zwq]
    cases h1:(m.Given[i].Script == sc) with
    | false=>rw [zaq,zik,iNs]; exact ih (i+1) out (by omega) (by omega)
    | true =>
      cases h2:(m.Given[i].Part == pa) with
      | false=>rw [zaE,zaq,zpE,iNs]; exact ih (i+1) out (by omega) (by omega)
      | true=>rw [zaE,zaE,znh,if_pos rfl,zao rfl,zao (by simp only [zan]; omega),zao rfl,zcH zbj]; have:=ih (i+1) (out++[m.Given[i]]) (by omega) (by simp; omega); rw [zge] at this; exact this
 have:=key m.Given.length 0 [] (by omega) (by simp); rw [zl8,zsg] at this; exact this
def suspB (id:Int) (a:zaN) (x:zbc):Bool:=x.Marker == id && !lessS a x.At && (!x.Lifted || lessS a x.Until)
def zhl (m:zbX) (id:Int) (a:zaN):Bool:=m.Suspensions.any (suspB id a)
theorem zth (x:zbc) (id:Int) (a:zaN):cw zcu [.agg (zag x),.fp [I id],.fp [I a.Time,I a.Source,I a.Seq]] []=some (zaj (suspB id a x)):=by
 refine zrM x id a ?_; rw [zrF,za4,cmpS_le,zrF,za4,zpS]; unfold suspB
 cases (x.Marker == id) with
 | false=>rfl
 | true =>
   cases lessS a x.At with
   | true=>rfl
   | false=>cases x.Lifted <;> rfl
theorem c_idxS (l:List zbc) (id:Int) (a:zaN) (hl:l.length≤1000000):cw zcF [.sl 12 (List.map zag l),.fn zcu [.fp [I id],.fp [I a.Time,I a.Source,I a.Seq]]] []=some (zbi (match fnd (suspB id a) 0 l with | some (i,_)=>(i:Int) | none=>-1)):=by
 refine zgl l id a ?_; refine zfV l (suspB id a) (fun i=>zb9 l id a i) (fun o=>zbi (match o with | some (i,_)=>(i:Int) | none=>-1)) ?_ ?_ ?_
 · exact zcz _ _ _ _ (by simp (disch:=omega) only [zan,zaQ]; rfl)
 · intro i hi h; refine zcz _ _ _ _ ?_; simp (disch:=omega) only [zan,zaD,zao,za2,ze5,zaA hi,zaV,zth,zam]; rw [h,zaE]; rfl
 · intro i hi y h hk; refine zcz _ _ _ _ ?_; simp (disch:=omega) only [zan,zaD,zao,za2,ze5,zaA hi,zaV,zth,zam]; rw [h,zaq,w6Q]; exact hk
theorem zqP (m:zbX) (id:Int) (a:zaN) (hl:m.Suspensions.length≤1000000):cw zfd [.agg (zdd m),I id,.agg (zbu a)] []=some (zaj (zhl m id a)):=by
 refine ztF m id a ?_; rw [zfZ m.Suspensions id a (y:=zaj (zhl m id a)) ?_,zam]
 · rfl
 · rw [c_idxS _ _ _ hl,za4]; unfold zhl; rw [← fnd_any]
   cases fnd (suspB id a) 0 m.Suspensions with
   | none=>rfl
   | some q=>simp; rfl
structure FairD (i:Nat) (pre:List zab) (d:zah):Prop where
 mrk:∀ x∈d.marks,x.event∈pre
 sAt:∀ y∈d.suspensions,(∃ e∈pre,y.At=e.Stamp)∧(y.Lifted=true→∃ e∈pre,y.Until=e.Stamp)∧y.Marker=(i:Int)
 lift:d.watch.Suspended=false→∀ y∈d.suspensions,y.Lifted=true
 lift2:d.watch.Suspended=true→∀ (k:Nat) (y:zbc),d.suspensions[k]?=some y→(k+1≠d.suspensions.length→y.Lifted=true)∧(k+1=d.suspensions.length→y.Lifted=false)
 out:∀ x∈d.marks,x.void=false→∀ y∈d.suspensions,lessS x.event.Stamp y.At=true∨(y.Lifted=true∧lessS x.event.Stamp y.Until=false)
 bad:∀ x∈d.marks,x.void=false→∀ y∈d.suspensions,y.First=false→lessS y.Good x.event.Stamp=true→lessS y.At x.event.Stamp=true
 per:∀ (k:Nat) (x:zbf),d.marks[k]?=some x→(k:Int) < d.period→lessS d.started x.event.Stamp=false
 st:d.period≤0∨∃ e∈pre,d.started=e.Stamp
 good:d.some=true→d.period≤0∨lessS d.started d.good=true
 pos:d.period≤(d.marks.length:Int)
theorem FairD.mono {i pre d} (h:FairD i pre d) (e:zab):FairD i (pre++[e]) d:=by
 have up:∀ {f:zab},f∈pre→f∈pre++[e]:=fun h=>aLiAs73 _ h
 refine ⟨fun x hx=>up (h.mrk x hx),fun y hy=>?_,h.lift,h.lift2,h.out,h.bad,h.per,?_,h.good,h.pos⟩
 · obtain ⟨⟨f,f1,f2⟩,g,m⟩:=h.sAt y hy; exact ⟨⟨f,up f1,f2⟩,fun hl=>by obtain ⟨q,q1,q2⟩:=g hl; exact ⟨q,up q1,q2⟩,m⟩
 · rcases h.st with q | ⟨f,f1,f2⟩
   · exact .inl q
   · exact .inr ⟨f,up f1,f2⟩
theorem FairD.rein {i pre d} (h:FairD i pre d) {e:zab} (hlt:∀ f∈pre,lessS f.Stamp e.Stamp=true):FairD i (pre++[e]) (reinS e.Stamp d):=by
 unfold reinS; split
 case isFalse=>exact h.mono e
 rename_i hs; have h':=h.mono e
 have mem:∀ y'∈d.suspensions.modify (d.suspensions.length - 1) (fun x=>{ x with Lifted:=true,Until:=e.Stamp }),∃ y∈d.suspensions,(y'={ y with Lifted:=true,Until:=e.Stamp }∧y.Lifted=false)∨(y'=y∧y.Lifted=true):=by
  intro y' hy; obtain ⟨k,hk⟩:=aLiAs63 hy; rw [List.getElem?_modify] at hk
  cases hg:d.suspensions[k]? with
  | none=>rw [hg] at hk; simp at hk
  | some y =>
    rw [hg] at hk; have hlen:k < d.suspensions.length:=(zbw.1 hg).1; refine ⟨y,zbU hg,?_⟩; obtain ⟨q1,q2⟩:=h.lift2 hs k y hg; by_cases hl:d.suspensions.length - 1=k
    · left; exact ⟨by simpa [hl,eq_comm] using hk,q2 (by omega)⟩
    · right; exact ⟨by simpa [hl,eq_comm] using hk,q1 (by omega)⟩
 refine ⟨h'.mrk,fun y' hy=>?_,fun _ y' hy=>?_,fun hh=>absurd hh (by simp),fun x hx hv y' hy=>?_,fun x hx hv y' hy hf hg=>?_,fun k x hk _=>?_,.inr ⟨e,by simp,rfl⟩,fun hh=>absurd hh (by simp),by simp⟩
 · obtain ⟨y,y1,y2⟩:=mem y' hy; obtain ⟨a1,a2,a3⟩:=h'.sAt y y1; rcases y2 with ⟨rfl,_⟩ | ⟨rfl,_⟩
   · exact ⟨a1,fun _=>⟨e,by simp,rfl⟩,a3⟩
   · exact ⟨a1,a2,a3⟩
 · obtain ⟨y,y1,y2⟩:=mem y' hy; rcases y2 with ⟨rfl,_⟩ | ⟨rfl,q⟩
   · rfl
   · exact q
 · obtain ⟨y,y1,y2⟩:=mem y' hy; rcases y2 with ⟨rfl,q⟩ | ⟨rfl,_⟩
   · rcases h.out x hx hv y y1 with r | ⟨r,_⟩
     · exact .inl r
     · rw [q] at r; cases r
   · exact h.out x hx hv _ y1
 · obtain ⟨y,y1,y2⟩:=mem y' hy; rcases y2 with ⟨rfl,_⟩ | ⟨rfl,_⟩
   · exact h.bad x hx hv y y1 hf hg
   · exact h.bad x hx hv _ y1 hf hg
 · exact znX (hlt _ (h.mrk x (zbU hk)))
theorem FairD.app {i pre d} (h:FairD i pre d) {e:zab} (hlt:∀ f∈pre,lessS f.Stamp e.Stamp=true):FairD i (pre++[e]) { d with marks:=d.marks++[⟨e,d.watch.Suspended⟩] }:=by
 have h':=h.mono e; refine ⟨fun x hx=>?_,h'.sAt,h.lift,h.lift2,fun x hx hv y hy=>?_,fun x hx hv y hy hf hg=>?_,fun k x hk hp=>?_,h'.st,h.good,?_⟩
 · rcases zb6.1 hx with hx | hx
   · exact h'.mrk x hx
   · rw [zdg.1 hx]; simp
 · rcases zb6.1 hx with hx | hx
   · exact h.out x hx hv y hy
   · rw [zdg.1 hx] at hv ⊢; have hl:=h.lift hv y hy; obtain ⟨f,f1,f2⟩:=(h.sAt y hy).2.1 hl; exact .inr ⟨hl,by rw [f2]; exact znX (hlt f f1)⟩
 · rcases zb6.1 hx with hx | hx
   · exact h.bad x hx hv y hy hf hg
   · rw [zdg.1 hx]; obtain ⟨f,f1,f2⟩:=(h.sAt y hy).1; rw [f2]; exact hlt f f1
 · have hp':(k:Int) < d.period:=hp; have:=h.pos; rw [znf (by omega)] at hk; exact h.per k x hk hp'
 · have:=h.pos; simp only [zfj,zwj]; omega
theorem FairD.susp {i pre d} (h:FairD i pre d) {e:zab} (hlt:∀ f∈pre,lessS f.Stamp e.Stamp=true) (hw:d.watch.Suspended=false) {w:zc3} (hn:w.Suspended=true) (no:List (zax×Int)) {id:Int} (hid:id=(i:Int)):FairD i (pre++[e]) (suspS id e.Stamp { d with noted:=no,watch:=w }):=by
 have h':=h.mono e; subst hid; unfold suspS; simp only; generalize hg:(if d.some then d.good else d.started)=g
 have mem:∀ (k:Nat) (x':zbf),(d.marks.mapIdx (voidIf d.period (!d.some) g))[k]?=some x'→∃ x,d.marks[k]?=some x∧x'.event=x.event∧(x'.void=false→x.void=false∧¬ (d.period≤k∧(!d.some || lessS g x.event.Stamp)=true)):=by
  intro k x' hk; rw [zj1] at hk
  cases hm:d.marks[k]? with
  | none=>rw [hm] at hk; cases hk
  | some x =>
    rw [hm] at hk; injection hk with hk; refine ⟨x,rfl,by rw [← hk,zuO],fun hv=>?_⟩; rw [← hk] at hv; unfold voidIf at hv; split at hv
    · cases hv
    · rename_i q; exact ⟨hv,q⟩
 have mem':∀ x'∈d.marks.mapIdx (voidIf d.period (!d.some) g),∃ (k:Nat) (x:zbf),d.marks[k]?=some x∧x'.event=x.event∧(x'.void=false→x.void=false∧¬ (d.period≤k∧(!d.some || lessS g x.event.Stamp)=true)):=fun x' hx=>by obtain ⟨k,hk⟩:=aLiAs63 hx; obtain ⟨x,q⟩:=mem k x' hk; exact ⟨k,x,q⟩
 refine ⟨fun x' hx=>?_,fun y hy=>?_,fun hh=>?_,fun _ k y hk=>?_,fun x' hx hv y hy=>?_,fun x' hx hv y hy hf hgd=>?_,fun k x' hk hp=>?_,h'.st,h.good,?_⟩
 · obtain ⟨k,x,q1,q2,_⟩:=mem' x' hx; rw [q2]; exact h'.mrk x (zbU q1)
 · rcases zb6.1 hy with hy | hy
   · exact h'.sAt y hy
   · rw [zdg.1 hy]; exact ⟨⟨e,by simp,rfl⟩,fun hh=>absurd hh (by simp),rfl⟩
 · rw [hn] at hh; cases hh
 · rw [zfj,zwj]; by_cases hk':k < d.suspensions.length
   · rw [znf hk'] at hk; exact ⟨fun _=>h.lift hw y (zbU hk),fun q=>absurd q (by omega)⟩
   · rw [List.getElem?_append_right (by omega)] at hk
     have:k - d.suspensions.length=0:=by have:=(zbw.1 hk).1; simp at this; omega
     rw [this] at hk; simp only [zez,zaw] at hk; exact ⟨fun q=>absurd (by omega) q,fun _=>by rw [← hk]⟩
 · obtain ⟨k,x,q1,q2,q3⟩:=mem' x' hx; have hx0:=zbU q1; rw [q2]; rcases zb6.1 hy with hy | hy
   · exact h.out x hx0 (q3 hv).1 y hy
   · rw [zdg.1 hy]; exact .inl (hlt _ (h.mrk x hx0))
 · obtain ⟨k,x,q1,q2,q3⟩:=mem' x' hx; have hx0:=zbU q1; rw [q2] at hgd ⊢; rcases zb6.1 hy with hy | hy
   · exact h.bad x hx0 (q3 hv).1 y hy hf hgd
   · rw [zdg.1 hy] at hf hgd; simp only at hf hgd; exfalso; have hs:d.some=true:=by simpa using hf
     have hk:¬ d.period≤(k:Int):=fun hk=>(q3 hv).2 ⟨hk,by simp only [hgd,Bool.or_true]⟩
     have hp:=h.per k x q1 (by omega); rw [hs,if_pos rfl] at hg; rw [← hg] at hgd; rcases h.good hs with r | r
     · omega
     · rw [lessS_tr r hgd] at hp; cases hp
 · obtain ⟨x,q1,q2,_⟩:=mem k x' hk; rw [q2]; exact h.per k x q1 hp
 · have:=h.pos; simpa using this
theorem FairD.note {i pre d} (h:FairD i pre d) {e:zab} (hlt:∀ f∈pre,lessS f.Stamp e.Stamp=true) (s:zay) (p:zaG) (sd:GSeed) (hid:e.Stamp.Source=(i:Int)):FairD i (pre++[e]) (noteS s p sd e d):=by
 have h':=h.mono e; unfold noteS; split
 · exact h'
 · simp only; split
   · exact ⟨h'.mrk,h'.sAt,h'.lift,h'.lift2,h'.out,h'.bad,h'.per,h'.st,h'.good,h'.pos⟩
   · split
     · exact ⟨h'.mrk,h'.sAt,h'.lift,h'.lift2,h'.out,h'.bad,h'.per,h'.st,h'.good,h'.pos⟩
     · rename_i hw; have hw:d.watch.Suspended=false:=by simpa using hw
       split
       · rename_i hn; exact h.susp hlt hw hn _ hid
       · rename_i hn; split
         · refine ⟨h'.mrk,h'.sAt,fun _=>h'.lift hw,fun q=>absurd q hn,h'.out,h'.bad,h'.per,h'.st,fun _=>?_,h'.pos⟩; rcases h.st with q | ⟨f,f1,f2⟩
           · exact .inl q
           · right; simp only; rw [f2]; exact hlt f f1
         · exact ⟨h'.mrk,h'.sAt,fun _=>h'.lift hw,fun q=>absurd q hn,h'.out,h'.bad,h'.per,h'.st,h'.good,h'.pos⟩
theorem asc_at {ev pre post:List zab} {e:zab} (ha:ev.Pairwise (fun a b=>lessS a.Stamp b.Stamp=true)) (he:ev=pre++e :: post):∀ f∈pre,lessS f.Stamp e.Stamp=true:=by rw [he] at ha; exact fun f hf=>(List.pairwise_append.1 ha).2.2 f hf e (by simp)
theorem zqx {s:zay} {ev:List zab} (ha:ev.Pairwise (fun a b=>lessS a.Stamp b.Stamp=true)) (hv:∀ e∈ev,eventB e=true) {i:Nat} {d:zah} (h:(walkS s ev).1 i=some d):FairD i ev d:=by
 refine walk_ind (FairD i) (fun m _ _=>?_) (fun pre e post d he q=>?_) h
 · exact ⟨by simp [desk0],by simp [desk0],by simp [desk0],by simp [desk0],by simp [desk0],by simp [desk0],by simp [desk0],by simp [desk0],by simp [desk0],by simp [desk0]⟩
 · have hlt:=asc_at ha he; unfold deskE; split
   · split
     · exact q.rein hlt
     · exact q.mono e
   · split
     · rename_i k; have hb:=zoi (hv e (by rw [he]; simp))
       have hid:e.Stamp.Source=(i:Int):=by have:=hb.1.2.1; omega
       split
       · split
         · exact q.note hlt _ _ _ hid
         · exact q.app hlt
         · exact q.mono e
       · exact q.mono e
     · exact q.mono e
theorem zls {l:List zab}:∀ e∈canonS l,eventB e=true:=fun _ he=>(zyT.1 he).2.1
theorem zwW {s:zay} {l:List zab} {g:zbv} (h:g∈(foldS s l).Given):∃ (i:Nat) (d:zah) (x:zbf),i < 100∧(walkS s (canonS l)).1 i=some d∧x∈d.marks∧x.void=false∧g=zbW i d x.event∧x.event∈canonS l∧markEv s i x.event=true:=by
 rw [zrR] at h; simp only at h; obtain ⟨i,hi,d,hd,p,hp,rfl⟩:=znU.1 ((zg1 (lt:=zbZ) _).mem_iff.1 h); obtain ⟨x,x1,x2,x3,_⟩:=countS_mem hp; have hm:=zyj hd; have:x.event∈(canonS l).filter (markEv s i):=by rw [← hm]; exact zbB.2 ⟨x,x1,rfl⟩
 obtain ⟨m1,m2⟩:=List.mem_filter.1 this; exact ⟨i,d,x,hi,hd,x1,x3,by rw [x2],m1,m2⟩
theorem susp_of {ds:Desks} {n:Nat} {y:zbc} (h:y∈suspTo ds n):∃ (i:Nat) (d:zah),i < n∧ds i=some d∧y∈d.suspensions:=by
 unfold suspTo at h; obtain ⟨i,hi,hy⟩:=zcl.1 h
 cases hd:ds i with
 | none=>rw [hd] at hy; cases hy
 | some d=>rw [hd] at hy; exact ⟨i,d,zjf.1 hi,hd,hy⟩
theorem given_free {s:zay} {l:List zab} {g:zbv} (h:g∈(foldS s l).Given):zhl (foldS s l) g.Marker g.Stamp=false:=by
 obtain ⟨i,d,x,hi,hd,x1,x2,rfl,_⟩:=zwW h; have hf:=zqx (zqu l) zls hd; unfold zhl; rw [zwn]; intro y hy; rw [zrR] at hy; obtain ⟨j,f,_,hj,hy⟩:=susp_of hy; have hg:=zqx (zqu l) zls hj; have hm:=(hg.sAt y hy).2.2; unfold suspB zbW; simp only; by_cases hij:j=i
 · subst hij; rw [hd] at hj; injection hj with hj; subst hj; rcases hf.out x x1 x2 y hy with r | ⟨r1,r2⟩
   · simp [r]
   · simp [r1,r2]
 · have:(y.Marker == (i:Int))=false:=by rw [hm,beq_eq_false_iff_ne]; omega
   simp [this]
theorem given_bad {s:zay} {l:List zab} {g:zbv} (h:g∈(foldS s l).Given) {y:zbc} (hy:y∈(foldS s l).Suspensions) (h1:y.Marker=g.Marker) (h2:lessS y.Good g.Stamp=true) (h3:lessS y.At g.Stamp=false):y.First=true:=by
 obtain ⟨i,d,x,hi,hd,x1,x2,rfl,_⟩:=zwW h; have hf:=zqx (zqu l) zls hd; rw [zrR] at hy; obtain ⟨j,f,_,hj,hy⟩:=susp_of hy; have hg:=zqx (zqu l) zls hj; have hm:=(hg.sAt y hy).2.2
 have hij:j=i:=by unfold zbW at h1; simp only at h1; omega
 subst hij; rw [hd] at hj; injection hj with hj; subst hj
 cases hF:y.First with
 | true=>rfl
 | false=>have:=hf.bad x x1 x2 y hy hF h2; unfold zbW at h3; simp only at h3; rw [this] at h3; cases h3
theorem zAz (i:Nat) (d:zah) (R:Reop):((countS d R).map fun p=>zbW i d p.2).Nodup:=by obtain ⟨k1,k2⟩:=zue d R; generalize countS d R=m at k1 k2; unfold List.Nodup at k1 ⊢; rw [List.pairwise_map] at k1 ⊢; refine List.Pairwise.imp_of_mem ?_ k1; intro p q hp hq hne he; unfold zbW at he; injection he with e1 e2; exact hne (by rw [k2 p hp,k2 q hq,e1,e2])
theorem ztl (ds:Desks) (R:Reop):∀ n,(zcb ds R n).Nodup
 | 0=>by simp [zcb]
 | n+1=>by
   rw [zkj]; refine List.nodup_append.2 ⟨ztl ds R n,?_,?_⟩
   · cases ds n with
     | none=>exact List.nodup_nil
     | some d=>exact zAz n d R
   · intro a ha b hb hab; subst hab; obtain ⟨i,hi,d,_,p,_,rfl⟩:=znU.1 ha
     cases hd:ds n with
     | none=>rw [hd] at hb; cases hb
     | some f=>rw [hd] at hb; obtain ⟨q,_,hq⟩:=zbB.1 hb; unfold zbW at hq; injection hq with _ _ h3; omega
theorem given_asc (s:zay) (l:List zab):(foldS s l).Given.Pairwise (fun a b=>zbZ a b=true):=by
 rw [zrR]; simp only; generalize hL:zcb (walkS s (canonS l)).1 (walkS s (canonS l)).2 100=L; have hp:=zg1 (lt:=zbZ) L; have h1:=zmP (lt:=zbZ) (fun _ _ _ h1 h2=>znE h1 h2) (fun _ _ h=>ztk h) L; have h2:(isort zbZ L).Nodup:=hp.nodup_iff.2 (by rw [← hL]; exact ztl _ _ _); refine (h1.and h2).imp_of_mem ?_; intro a b ha hb ⟨q1,q2⟩
 cases h:zbZ a b with
 | true=>rfl
 | false=>have q:=zxW h q1; rw [hp.mem_iff,← hL] at ha hb; exact absurd (zy5 ha hb q.1 q.2.1 q.2.2) q2
set_option maxRecDepth 100000
def scr0 (i:Int):zaH:=⟨i,0,i,1,0,[],[-1]⟩
def S0:zay:=⟨[⟨7,-1,1,9,[0]⟩],[scr0 1,scr0 2,scr0 3,scr0 4,scr0 5,scr0 6],[⟨0,0,[⟨1,5,0,0,0,0⟩]⟩],[⟨[[]],[0]⟩],[⟨1,[4]⟩,⟨6,[4]⟩],⟨0,0,1,1⟩⟩
theorem c_setup29:cw zlC [] []=some (zoE S0):=cw_of 30 (by kernel_rfl)
def at29 (t s v:Int):zab:=⟨⟨t,7,t⟩,0,s,0,v,0,[]⟩
theorem zrE (a b c:Int):cw zgT [I a,I b,I c] []=some (zkQ (at29 a b c)):=e_law29_at a b c rfl
def l0:List zab:=[at29 9 2 1,at29 10 1 4,at29 11 3 2,at29 12 4 3,at29 13 6 1]
def l1:List zab:=l0++[⟨⟨20,0,0⟩,1,0,0,0,7,[]⟩,at29 21 3 5]
def w0d:Desks×Reop:=walkS S0 (canonS l0)
def znR (i:Nat) (d:zah) (R:Reop) (l:List zbf):List GTask:=l.filterMap fun x=>if x.void=true∧(mfind ⟨x.event.Script,x.event.Part⟩ (countS d R)).isSome=false then some ⟨x.event.Script,(i:Int)⟩ else none
def zr7 (ds:Desks) (R:Reop):Nat→Nat→List GTask
 | _,0=>[]
 | i,n+1=>(match ds i with | some d=>znR i d R d.marks | none=>[])++zr7 ds R (i+1) n
theorem ok_S0:zdT S0 where
 markers:=by
  refine ⟨by decide,?_,?_⟩
  · intro m hm; simp only [S0,zdg] at hm; subst hm; refine ⟨⟨by decide,by decide,by decide,by decide,by simp⟩,fun j hj=>by simp at hj⟩
  · intro j hj; simp [S0] at hj
 scripts:=by
  refine ⟨by decide,?_,?_⟩
  · intro x hx; simp only [S0,za6,zc4,or_false] at hx; rcases hx with rfl | rfl | rfl | rfl | rfl | rfl <;> exact ⟨by decide,by decide,by decide,by decide,by decide,by decide⟩
  · intro j hj; have:j < 5:=by simp [S0] at hj; omega
    match j,this with
    | 0,_ | 1,_ | 2,_ | 3,_ | 4,_=>simp [S0,scr0]
 papers:=by decide
 len:=rfl
 schemes:=by
  intro j p c hp hc
  match j with
  | 0 =>
    simp only [S0,zez,zaw] at hp hc; subst hp hc; refine ⟨⟨by decide,by decide,by decide,?_,by decide⟩,rfl,rfl,?_⟩
    · intro x hx; simp only [zdg] at hx; subst hx; exact ⟨by decide,by decide,by decide,.inl (by decide)⟩
    · intro j x ks k hx hks hk
      match j with
      | 0=>simp only [zez,zaw] at hx hks hk; subst hx hks hk; exact ⟨⟨by simp,fun j hj=>by simp at hj⟩,by decide⟩
      | j+1=>simp at hx
  | j+1=>simp [S0] at hp
 script:=by
  intro x hx; refine ⟨0,⟨0,0,[⟨1,5,0,0,0,0⟩]⟩,⟨[[]],[0]⟩,?_,rfl,?_⟩
  · simp only [S0,za6,zc4,or_false] at hx; rcases hx with rfl | rfl | rfl | rfl | rfl | rfl <;> rfl
  · have:x.Answers=[-1]:=by simp only [S0,za6,zc4,or_false] at hx; rcases hx with rfl | rfl | rfl | rfl | rfl | rfl <;> rfl
    rw [this]; refine ⟨rfl,fun j y v hy _ hk=>?_⟩
    match j with
    | 0=>simp only [zez,zaw] at hy; subst hy; exact absurd rfl hk
    | j+1=>simp at hy
 seeds:=by decide
 asc:=by
  intro j hj; have:j < 1:=by simp [S0] at hj; omega
  match j,this with
  | 0,_=>simp [S0]
 seed:=by
  intro x hx; refine ⟨0,⟨0,0,[⟨1,5,0,0,0,0⟩]⟩,?_,?_⟩
  · simp only [S0,za6,zc4,or_false] at hx; rcases hx with rfl | rfl <;> rfl
  · have:x.Marks=[4]:=by simp only [S0,za6,zc4,or_false] at hx; rcases hx with rfl | rfl <;> rfl
    rw [this]; refine ⟨rfl,fun j y v hy hv=>?_⟩
    match j with
    | 0=>simp only [zez,zaw] at hy hv; subst hy hv; decide
    | j+1=>simp at hy
 monitor:=⟨by decide,by decide,by decide,by decide⟩
 short:=by intro c hc ks hk; simp only [S0,zdg] at hc; subst hc; simp only [zdg] at hk; subst hk; decide
 short2:=by intro m hm; simp only [S0,zdg] at hm; subst hm; decide
theorem few0:FewEv l0:=few_of (by decide) (by intro e he; simp only [l0,za6,zc4,or_false] at he; rcases he with rfl | rfl | rfl | rfl | rfl <;> decide)
theorem few1:FewEv l1:=few_of (by decide) (by intro e he; simp only [l1,l0,zb6,za6,zc4,or_false] at he; rcases he with (rfl | rfl | rfl | rfl | rfl) | rfl | rfl <;> decide)
theorem tasks_ok:zr7 w0d.1 w0d.2 0 100=[⟨3,7⟩,⟨4,7⟩]:=by kernel_rfl
theorem sort_ok:cw zfP [.row 1000 2 0 2,.fn zmK []] [(1000,⟨2,zbF,List.map zfI [⟨3,7⟩,⟨4,7⟩],false⟩)]=some (zd1 [⟨3,7⟩,⟨4,7⟩]):=cw_of 30 (by kernel_rfl)
theorem compact_ok:cw zf1 [.row 1000 2 0 2] [(1000,⟨2,zbF,List.map zfI [⟨3,7⟩,⟨4,7⟩],false⟩)]=some (zea (2,[⟨3,7⟩,⟨4,7⟩])):=cw_of 30 (by kernel_rfl)
theorem tasks_len (i:Nat) (d:zah) (R:Reop) (l:List zbf):(znR i d R l).length≤l.length:=zsh _ _
theorem ret_marks (r1:((List zab)×Int)×(List zab)) (ds:Desks) (R:Reop) (i:Nat) (d:zah) (hl:d.marks.length≤1000000) {y:AV×Mem} (out:List GTask) (ho:out.length≤1000000)
  (h:zdm r1 (deskL ds,R) (List.map zfI (out++znR i d R d.marks)) (w64 ((i:Int)+1))=some y):zdn r1 (deskL ds,R) i d (countS d R) (List.map zfI out) 0=some y:=by
 have key:∀ (n j:Nat) (o:List GTask),j+n=d.marks.length→o++znR i d R (d.marks.drop j)=out++znR i d R d.marks→o.length≤1000000+j→zdn r1 (deskL ds,R) i d (countS d R) (List.map zfI o) j=some y:=by
  intro n
  induction n with
  | zero=>intro j o hj he hlo; refine zm0 _ _ _ _ _ _ _ ?_; rw [zan,zaQ (by omega)]; rw [zim (by omega)] at he; simp only [znR,List.filterMap_nil,zpD] at he; rw [he]; exact h
  | succ n ih =>
    intro j o hj he hlo; have hlt:j < d.marks.length:=by omega
    refine zm0 _ _ _ _ _ _ _ ?_; rw [zan,zaD (by omega),cPQ,za2,zgS,zaA hlt,zaV,w6Q,show ((j:Int)+1)=((j+1:Nat):Int) by omega]; rw [show (AV.agg (zcP.enc ⟨d.marks[j].event.Script,d.marks[j].event.Part⟩))=.agg (zbg ⟨d.marks[j].event.Script,d.marks[j].event.Part⟩) from rfl,zlu]; rw [zdC hlt] at he; unfold znR at he; rw [List.filterMap_cons] at he
    cases hv:d.marks[j].void with
    | false=>rw [zaq]; rw [if_neg (by rw [hv]; simp)] at he; exact ih (j+1) o (by omega) he (by omega)
    | true =>
      rw [zaE]
      cases hm:(mfind ⟨d.marks[j].event.Script,d.marks[j].event.Part⟩ (countS d R)).isSome with
      | true=>rw [zbA,zaq]; rw [if_neg (by rw [hm]; simp)] at he; exact ih (j+1) o (by omega) he (by omega)
      | false=>rw [zci,zaE,zao rfl,zao (by simp only [zan]; omega),zao rfl]; rw [if_pos ⟨hv,hm⟩] at he; have:=ih (j+1) (o++[⟨d.marks[j].event.Script,i⟩]) (by omega) (by rw [zge]; exact he) (by simp; omega); rw [← zcH] at this; exact this
 exact key d.marks.length 0 out (by omega) (by rw [zl8]) (by omega)
theorem ret_desks (r1:((List zab)×Int)×(List zab)) (ds:Desks) (R:Reop) (hd:∀ i d,ds i=some d→d.marks.length≤200) {y:AV×Mem} {ts:List GTask}
  (h:zdm r1 (deskL ds,R) (List.map zfI ts) 100=some y):∀ (n i:Nat) (out:List GTask),i+n=100→out++zr7 ds R i n=ts→out.length≤200*i→zdm r1 (deskL ds,R) (List.map zfI out) i=some y:=by
 intro n
 induction n with
 | zero =>
   intro i out hi he _; have:i=100:=by omega
   subst this; simp only [zr7,zpD] at he; rw [he]; exact h
 | succ n ih =>
   intro i out hi he hlo; have hlt:i < 100:=by omega
   refine zmZ _ _ _ _ ?_; have hget:=zyX ds hlt; rw [zaD (by omega),cPQ,zao (show (i:Int) < 100 by omega),za2]; unfold zr7 at he
   cases hdi:ds i with
   | none=>rw [hdi] at hget he; rw [zqw (by simpa [nDp] using hget)]; refine zqm _ _ _ _ ?_; rw [w6Q,show ((i:Int)+1)=((i+1:Nat):Int) by omega]; exact ih (i+1) out (by omega) (by simpa using he) (by omega)
   | some d=>rw [hdi] at hget he; rw [zyZ (D:=ze7) (x:=d) (by simpa [nDp] using hget)]; refine zo9 _ _ _ _ _ ?_; have hc:=zxv d R (by have:=hd i d hdi; omega); unfold zc1 at hc; rw [hc,zh8]; have hml:=hd i d hdi; have htl:=tasks_len i d R d.marks; refine ret_marks r1 ds R i d (by omega) out (by omega) ?_; rw [w6Q,show ((i:Int)+1)=((i+1:Nat):Int) by omega]; exact ih (i+1) _ (by omega) (by rw [zge]; exact he) (by rw [zfj]; omega)
theorem c_ret0:cw zka [.agg (zas S0),.row 1001 9 0 5] [(1001,⟨9,zac,List.map zaa l0,false⟩)]=some (zku (([⟨3,7⟩,⟨4,7⟩],0),l0)):=by
 refine zuj S0 l0 ?_; rw [zqr ok_S0,za4,show ((0:Int) != 0)=false from rfl,zaq]; have hc:=c_canon true few0; rw [show cw zbk [.row 1000 9 0 (List.length (List.map zaa l0))] [(1000,⟨9,zac,List.map zaa l0,false⟩)]=some (zdF ((canonS l0,0),l0)) from hc,zkY]; simp only [show ((0:Int) != 0)=false from rfl,zaq]; rw [c_walk (okRun ok_S0 few0),zoc]; refine ret_desks _ _ _ (fun i d hd=>?_) (ts:=[⟨3,7⟩,⟨4,7⟩]) ?_ 100 0 [] (by omega) tasks_ok (by simp)
 · have h1:=(desk_ok ok_S0 _ hd).marks; have h2:=(zdW l0).length_eq; have h3:=few0.2.1; omega
 · refine zmZ _ _ _ _ ?_; rw [zaQ (by omega),show List.length (List.map zfI [⟨3,7⟩,⟨4,7⟩])=2 from rfl,sort_ok,zi0,compact_ok,zjr,zao (by simp)]; rfl
def m0:zbX:=⟨[⟨2,0,7,1,1,⟨9,7,9⟩⟩],[⟨7,⟨10,7,10⟩,⟨13,7,13⟩,⟨0,0,0⟩,false,false⟩]⟩
def m1:zbX:=⟨[⟨2,0,7,1,1,⟨9,7,9⟩⟩,⟨3,0,7,1,5,⟨21,7,21⟩⟩],[⟨7,⟨10,7,10⟩,⟨13,7,13⟩,⟨20,0,0⟩,false,true⟩]⟩
theorem fold0:foldS S0 l0=m0:=by kernel_rfl
theorem fold1:foldS S0 l1=m1:=by kernel_rfl
theorem c_sane:cw zmI [] []=some (zaj true):=by refine zAB ?_; rw [zrE,zfm,zrE,zfm,zrE,zfm,zrE,zfm,zrE,zfm,zao rfl,c_setup29,zlb]; have h0:=c_fold ok_S0 few0; rw [fold0] at h0; refine Eq.trans (zbJ (D:=zd2) (x:=((m0,0),l0)) h0 _) ?_; rw [zlb]; refine Eq.trans (zbJ (D:=zfK) (x:=(([⟨3,7⟩,⟨4,7⟩],0),l0)) c_ret0 _) ?_; rw [zrE,zfm,zao (by rfl),zao (by decide),zao rfl,zlb]; have h1:=c_fold ok_S0 few1; rw [fold1] at h1; refine Eq.trans (zbJ (D:=zd2) (x:=((m1,0),l1)) h1 _) ?_; rw [c_Counting m1 3 0 (by decide),zqT,zqP m1 7 _ (by decide),zam,zqP m1 7 _ (by decide),zam]; rw [show zyW m1 3 0=[⟨3,0,7,1,5,⟨21,7,21⟩⟩] from by decide,show zhl m1 7 ⟨15,0,0⟩=true from by decide,show zhl m1 7 ⟨21,0,0⟩=false from by decide]; simp only [zmE,ze5]; simp [m0,m1,zaE,zbb]; rfl
set_option maxRecDepth 20000
theorem fold_lens {s:zay} (hs:zdT s) {l:List zab} (h:FewEv l):(foldS s l).Given.length≤1000000∧(foldS s l).Suspensions.length≤1000000:=by rw [zrR]; have h1:=zq7 s (canonS l) (walkS s (canonS l)).2 100; have h2:=(zdW l).length_eq; have h3:=h.2.1; have h4:=zyg hs (canonS l) 100; have h5:=(zg1 (lt:=zbZ) (zcb (walkS s (canonS l)).1 (walkS s (canonS l)).2 100)).length_eq; simp only; omega
set_option maxRecDepth 20000
theorem elig_of {l:List zaZ} {n:Int} {x:zaH} (h:eligB l n x=true):Elig l n x:=by
 unfold eligB at h; split at h
 · rename_i k m hm; unfold mayB at h; simp only [zbS,zwi,bne_iff_ne] at h; exact ⟨k,m,hm,h.1,h.2⟩
 · cases h
structure FairG (s:zay) (m:zbX) (C:List zab) (g:zbv) (x:zaH):Prop where
 sc:zfW s.Scripts g.Script=some x
 sd:seedOf s.Seeds g.Script=none
 el:Elig s.Markers g.Marker x
 su:zhl m g.Marker g.Stamp=false
 bad:∀ y∈m.Suspensions,y.Marker=g.Marker→lessS y.Good g.Stamp=true→lessS y.At g.Stamp=false→y.First=true
 ev:∃ e∈C,e.Kind=0∧e.Stamp=g.Stamp∧e.Script=g.Script∧e.Part=g.Part∧e.Value=g.Value∧e.Pages=x.Pages
theorem fair_given {s:zay} {l:List zab} {g:zbv} (h:g∈(foldS s l).Given):∃ x,FairG s (foldS s l) (canonS l) g x:=by
 obtain ⟨i,d,y,hi,hd,y1,y2,hg,y3,y4⟩:=zwW h; unfold markEv at y4; simp only [zbS,beq_iff_eq,Option.isNone_iff_eq_none] at y4; obtain ⟨⟨⟨k0,ks⟩,kf⟩,kd⟩:=y4; obtain ⟨q,hq⟩:=zb4.1 kf; obtain ⟨x,p,z,h1,h2,h3,h4,h5,h6,h7,h8⟩:=zu1 hq; have hb:=(zoi (zls _ y3)).1.2.1; have hid:y.event.Stamp.Source=(i:Int):=by omega
 refine ⟨x,?_,?_,?_,given_free h,fun u hu a b c=>given_bad h hu a b c,y.event,y3,k0,?_,?_,?_,?_,h8⟩
 · rw [hg]; exact h1
 · rw [hg]; unfold seedS at kd; exact Option.map_eq_none_iff.1 kd
 · rw [hg]; show Elig s.Markers (i:Int) x; rw [← hid]; exact elig_of h2
 all_goals rw [hg]; rfl
theorem zx2 (t:List Int):cw zm9 [.sl 1 (List.map zai t)] []=some (zaj true):=by
 refine ztB t ?_; rw [c_Light,zam]; by_cases ht:(t.length:Int)≤600
 case neg=>rw [decide_eq_false ht,zci,zaE,c_sane,zam]; rfl
 rw [decide_eq_true ht,zbA,zaq,c_Roll,zxA]; obtain ⟨s,d1,e1,hs,hd1⟩:=c_Setup ⟨t,0⟩ ⟨by simp,by show t.length≤600; omega⟩; obtain ⟨a,d2,e2,ha,hpa,hd2⟩:=c_Events d1 s 30 hd1 hs (by omega); obtain ⟨b,d3,e3,hb,hpb,hd3⟩:=c_Full d2 s 50 hd2 hs; rw [e1,zrH]; simp only; rw [e2,zlq]; simp only; rw [e3,zlq]; simp only
 have hpl:∀ e∈a++b,e.Pages.length≤1000000:=fun e he=>by
  rcases zb6.1 he with h | h
  · have:=hpa e h; omega
  · have:=hpb e h; omega
 have hlen:(a++b).length≤150:=by rw [zfj]; omega
 have few:FewEv (a++b):=few_of (by omega) hpl; have hok:=hs.ok; have hl:=fold_lens hok few; rw [cPQ,zao trivial,zne,zao (by simp only [zan]; omega),zao trivial,← zjZ]; generalize a++b=l at *; refine Eq.trans (zbJ (D:=zd2) (x:=((foldS s l,0),l)) (c_fold hok few) _) ?_; simp only [bne_self_eq_false,zaq]; rw [cPQ,zne,zAq _ (by omega) hpl,zsx,cPQ,cPQ]
 have hC:(canonS l).length≤1000000:=by have h1:=(zdW l).length_eq; have h2:=few.2.1; omega
 have hCp:∀ e∈canonS l,e.Pages.length≤1000000:=fun e he=>hpl e (zyT.1 he).1
 have hms:s.Markers.length≤1000000:=by have:=hok.markers.1; omega
 have hxs:s.Scripts.length≤1000000:=by have:=hok.scripts.1; omega
 have hds:s.Seeds.length≤1000000:=by have:=hok.seeds; omega
 have hdm:∀ y∈s.Seeds,y.Marks.length≤1000000:=fun y hy=>by obtain ⟨k,p,h1,h2⟩:=hok.seed y hy; obtain ⟨x,h3,h4⟩:=Option.bind_eq_some_iff.1 h1; have:=(hok.okPaper (zg7 h4).1).2.2.1; have:=h2.1; omega
 have hgiv:∀ g∈(foldS s l).Given,∃ x,FairG s (foldS s l) (canonS l) g x:=fun g hg=>fair_given hg
 have hasc:=given_asc s l; generalize foldS s l=m at *; generalize canonS l=C at *; refine zdB m.Given (fun i _=>zfQ (s,d1) ((m,0),l) C i=some (zaj true)) ?_ ?_
 · refine zmp _ _ _ _ ?_; dsimp only; rw [zan,zaQ (by omega),c_sane,zam]; rfl
 · intro i hi r hr ih; obtain ⟨x,F⟩:=hgiv _ (zbd hi)
   have lo1:∀ (n j:Nat) (o:Bool),j+n=C.length→(o=true∨∃ e∈C.drop j,e.Kind=0∧e.Stamp=m.Given[i].Stamp∧e.Script=m.Given[i].Script∧e.Part=m.Given[i].Part∧e.Value=m.Given[i].Value∧e.Pages=x.Pages)→zbO (s,d1) ((m,0),l) C i m.Given[i] (x,true) o j=some (zaj true):=by
    intro n
    induction n with
    | zero =>
      intro j o hj ho
      have:o=true:=by
       rcases ho with h | ⟨e,h,_⟩
       · exact h
       · rw [zim (by omega)] at h; cases h
      subst this; refine zmr _ _ _ _ _ _ _ _ ?_; dsimp only; rw [zan,zaQ (by omega),zbA,zaq,w6Q]; exact ih
    | succ n ih2 =>
      intro j o hj ho; have hlt:j < C.length:=by omega
      refine zmr _ _ _ _ _ _ _ _ ?_; dsimp only
      have next:∀ o',(o'=true∨∃ e∈C.drop (j+1),e.Kind=0∧e.Stamp=m.Given[i].Stamp∧e.Script=m.Given[i].Script∧e.Part=m.Given[i].Part∧e.Value=m.Given[i].Value∧e.Pages=x.Pages)→zbO (s,d1) ((m,0),l) C i m.Given[i] (x,true) o' ((j:Int)+1)=some (zaj true):=fun o' ho'=>by have:=ih2 (j+1) o' (by omega) ho'; simpa using this
      rw [zan,zaD (by omega),cPQ,za2,zbH,zaA hlt,zaV,w6Q,zvK _ _ (hCp _ (zbd hlt)),zam]
      cases o with
      | true=>rw [zaE]; exact next true (.inl rfl)
      | false =>
      rw [zaq]; rw [zdC hlt] at ho
      have ho:(C[j].Kind=0∧C[j].Stamp=m.Given[i].Stamp∧C[j].Script=m.Given[i].Script∧C[j].Part=m.Given[i].Part∧C[j].Value=m.Given[i].Value∧C[j].Pages=x.Pages)∨∃ e∈C.drop (j+1),e.Kind=0∧e.Stamp=m.Given[i].Stamp∧e.Script=m.Given[i].Script∧e.Part=m.Given[i].Part∧e.Value=m.Given[i].Value∧e.Pages=x.Pages:=by
       rcases ho with h | ⟨e,h,q⟩
       · cases h
       · rcases za6.1 h with rfl | h
         · exact .inl q
         · exact .inr ⟨e,h,q⟩
      have st:(C[j].Stamp.Time == m.Given[i].Stamp.Time && (C[j].Stamp.Source == m.Given[i].Stamp.Source && (C[j].Stamp.Seq == m.Given[i].Stamp.Seq && true)))=decide (C[j].Stamp=m.Given[i].Stamp):=by
       rw [zuX]; rcases C[j].Stamp with ⟨_,_,_⟩
       rcases m.Given[i].Stamp with ⟨_,_,_⟩
       simp
      rw [st]; have no:¬ (C[j].Kind=0∧C[j].Stamp=m.Given[i].Stamp∧C[j].Script=m.Given[i].Script∧C[j].Part=m.Given[i].Part∧C[j].Value=m.Given[i].Value∧C[j].Pages=x.Pages)→zbO (s,d1) ((m,0),l) C i m.Given[i] (x,true) false ((j:Int)+1)=some (zaj true):=fun h=>next false (.inr (ho.resolve_left h))
      by_cases c1:C[j].Kind=0
      case neg=>rw [show (C[j].Kind == 0)=false by simpa using c1,zaq]; exact no (fun h=>c1 h.1)
      rw [show (C[j].Kind == 0)=true by simpa using c1,zaE]; by_cases c2:C[j].Stamp=m.Given[i].Stamp
      case neg=>rw [decide_eq_false c2,zaq]; exact no (fun h=>c2 h.2.1)
      rw [decide_eq_true c2,zaE]; by_cases c3:C[j].Script=m.Given[i].Script
      case neg=>rw [show (C[j].Script == m.Given[i].Script)=false by simpa using c3,zaq]; exact no (fun h=>c3 h.2.2.1)
      rw [show (C[j].Script == m.Given[i].Script)=true by simpa using c3,zaE]; by_cases c4:C[j].Part=m.Given[i].Part
      case neg=>rw [show (C[j].Part == m.Given[i].Part)=false by simpa using c4,zaq]; exact no (fun h=>c4 h.2.2.2.1)
      rw [show (C[j].Part == m.Given[i].Part)=true by simpa using c4,zaE]; by_cases c5:C[j].Value=m.Given[i].Value
      case neg=>rw [show (C[j].Value == m.Given[i].Value)=false by simpa using c5,zaq]; exact no (fun h=>c5 h.2.2.2.2.1)
      rw [show (C[j].Value == m.Given[i].Value)=true by simpa using c5,zaE]; by_cases c6:C[j].Pages=x.Pages
      · rw [zbr c6]; exact next true (.inl rfl)
      · rw [zbp c6]; exact no (fun h=>c6 h.2.2.2.2.2)
   have start3:zbO (s,d1) ((m,0),l) C i m.Given[i] (x,true) false 0=some (zaj true):=
    lo1 C.length 0 false (by omega) (.inr (by rw [zl8]; exact F.ev))
   have start2:zb7 (s,d1) ((m,0),l) C i m.Given[i] (x,true) 0=some (zaj true):=by
    refine zdB m.Suspensions (fun j _=>zb7 (s,d1) ((m,0),l) C i m.Given[i] (x,true) j=some (zaj true)) ?_ ?_
    · refine zmq _ _ _ _ _ _ _ ?_; dsimp only; rw [zan,zaQ (by omega)]; exact start3
    · intro j hj r2 hr2 ih2; refine zmq _ _ _ _ _ _ _ ?_; dsimp only; rw [zan,zaD (by omega),cPQ,za2,ze5,zaA hj,zaV,w6Q,zpO,zam,zpO,zam]; by_cases c1:m.Suspensions[j].Marker=m.Given[i].Marker
      case neg=>rw [show (m.Suspensions[j].Marker == m.Given[i].Marker)=false by simpa using c1,zaq]; exact ih2
      rw [show (m.Suspensions[j].Marker == m.Given[i].Marker)=true by simpa using c1,zaE]
      cases c2:lessS m.Suspensions[j].Good m.Given[i].Stamp with
      | false=>rw [zaq]; exact ih2
      | true =>
      rw [zaE]
      cases c3:lessS m.Suspensions[j].At m.Given[i].Stamp with
      | true=>rw [zbA,zaq]; exact ih2
      | false =>
      rw [zci,zaE,F.bad _ (zbd hj) c1 c2 c3,zbA,zaq]; exact ih2
   refine zmp _ _ _ _ ?_; dsimp only; rw [zan,zaD (by omega),cPQ,za2,zmE,zaA hi,zaV,zyw _ _ hxs,zgQ,F.sc]; simp only [scR]; rw [zt7 _ _ hds hdm,zqV,F.sd]; simp only [seedR,zbA,zaq]; rw [zwE _ _ _ hms hok.short2,zam,zbr F.el,zbA,zaq,zqP _ _ _ hl.2,zam,F.su,zaq]; by_cases h0:0 < i
   case neg=>rw [zaQ (by omega)]; exact start2
   have hi':i - 1 < m.Given.length:=by omega
   rw [zaD (by omega),w6Q,cPQ,show ((i:Int) - 1).toNat=i - 1 by omega,zmE,zaA hi',zaV]; have hlt:=zwk.1 hasc (i - 1) i hi' hi (by omega); unfold zbZ at hlt; generalize m.Given[i - 1]=u at hlt; simp only [zei,decide_eq_true_eq,beq_iff_eq]
   repeat' split
   all_goals first | exact start2 | (exfalso; grind)
end Go.Proofs.YtikogkgdkdmljaaGreat
namespace Go.Ab
open Go.RowKit
abbrev Old (w:World):Nat→Prop:=fun g=>g < w.heap.size
def Rd (P:Program) (w:World) (t:TypeId) (n:Nat) {T:Type} (nT:T→List AV):Prop:=
 P.cellsOf t=n∧(∀ v,(nT v).length=n)∧∀ (H:Type) (enc:TypeId×Value→H) (base:Nat) (spare:Nat→Bool) (held:Bool) (fuel:Nat) (cs:List Value) (x:DataW H×List MemPlace),DataW.trod enc P w base spare held fuel t cs=some x→∃ v:T,cs.length=n∧∀ (j:Nat) (c:AV) (y:Value),(nT v)[j]?=some c→cs[j]?=some y→CRel (Old w) w c y∧y.oneCell'=true
theorem rd_int {P:Program} {w:World} {t:TypeId} {k:IntKind} (hc:P.cellsOf t=1) (ht:P.underlying t=some (.int k)):Rd P w t 1 (fun n:Int=>[AV.v (.int k n)]):=by
 refine ⟨hc,fun _=>rfl,fun H enc base spare held fuel cs x h=>?_⟩; obtain ⟨n,rfl,_,_⟩:=DataW.trod_int ht h; refine ⟨n,rfl,fun j c y h1 h2=>?_⟩
 cases j with
 | zero=>simp at h1 h2; subst h1; subst h2; exact ⟨.v _,rfl⟩
 | succ j=>simp at h1
theorem list_of {T:Type} {R:Nat→T→Prop}:∀ n:Nat,(∀ i,i < n→∃ v,R i v)→∃ l:List T,l.length=n∧∀ i v,l[i]?=some v→R i v
 | 0,_=>⟨[],rfl,fun i v h=>by simp at h⟩
 | n+1,h=>by
   obtain ⟨l,h1,h2⟩:=list_of n (fun i hi=>h i (by omega)); obtain ⟨v,hv⟩:=h n (by omega); refine ⟨l++[v],by simp [h1],fun i u hu=>?_⟩; by_cases hi:i < n
   · rw [znf (by omega)] at hu; exact h2 i u hu
   · have hlt:=(zbw.1 hu).1; simp at hlt; have:i=l.length:=by omega
     subst this; rw [List.getElem?_append_right (by omega)] at hu; simp at hu; subst hu; rw [h1]; exact hv
theorem rd_slice {P:Program} {w:World} {t e:TypeId} {n:Nat} {T:Type} {nT:T→List AV} (hc:P.cellsOf t=1) (ht:P.underlying t=some (.slice e)) (hn:0 < n) (he:Rd P w e n nT):Rd P w t 1 (fun l:List T=>[AV.sl n (l.map nT)]):=by
 refine ⟨hc,fun _=>rfl,fun H enc base spare held fuel cs x h=>?_⟩
 have done:∀ (l:List T) (y:Value),CRel (Old w) w (.sl n (l.map nT)) y→y.oneCell'=true→∃ v:List T,[y].length=1∧∀ (j:Nat) (c:AV) (z:Value),[AV.sl n (v.map nT)][j]?=some c→[y][j]?=some z→CRel (Old w) w c z∧z.oneCell'=true:=by
  intro l y hy h1; refine ⟨l,rfl,fun j c z hj hz=>?_⟩
  cases j with
  | zero=>simp at hj hz; subst hj; subst hz; exact ⟨hy,h1⟩
  | succ j=>simp at hj
 rcases DataW.trod_slice ht h with ⟨rfl,_⟩ | ⟨a,len,cap,elems,rest,m,rfl,rfl,_,hb,hl,_,hlen,hel,_,_⟩
 · exact done [] _ (CRel.nil_sl n) rfl
 · have each:∀ i,i < len→∃ v:T,a.block < w.heap.size∧∀ (j:Nat) (c:AV),(nT v)[j]?=some c→∃ y,w.cell? (a.add (i*n+j))=some y∧CRel (Old w) w c y∧y.oneCell'=true:=by
    intro i hi; have h1:=hel i hi; rw [zaA (by omega),he.1] at h1; obtain ⟨cs',h2,h3⟩:=Option.bind_eq_some_iff.1 h1; obtain ⟨v,h4,h5⟩:=he.2.2 H enc base spare held m cs' _ h3; obtain ⟨h6,h7,h8⟩:=World.cells?_some h2; have hblk:=World.cells?_block h2 hn; rw [zh7] at hblk; refine ⟨v,hblk,fun j c hj=>?_⟩; have hjn:j < n:=by have:=(zbw.1 hj).1; rw [he.2.1] at this; exact this
    have h9:=h8 j hjn; rw [Go.Addr.add_add] at h9; have h10:cs'[j]?=some (cs'[j]'(by omega)):=zaA (by omega); refine ⟨cs'[j]'(by omega),by rw [h9,h10],h5 j c _ hj h10⟩
   obtain ⟨l,hll,hlr⟩:=list_of len each; refine done l _ (.sl n _ (some a) len cap (fun i j=>(w.cell? (a.add (i*n+j))).getD undef) (by simp; omega) hl (fun cs hcs=>by obtain ⟨v,_,rfl⟩:=zbB.1 hcs; exact he.2.1 v) ?_ ?_) rfl
   · cases l with
     | nil=>left; rfl
     | cons v l'=>right; refine ⟨a,rfl,(hlr 0 v rfl).1,fun i j cs c h1 h2=>?_⟩; rw [zcW] at h1; obtain ⟨u,hu,rfl⟩:=Option.map_eq_some_iff.1 h1; obtain ⟨y,hy,hr,ho⟩:=(hlr i u hu).2 j c h2; rw [hy]; exact ⟨rfl,ho⟩
   · intro i j cs c h1 h2; rw [zcW] at h1; obtain ⟨u,hu,rfl⟩:=Option.map_eq_some_iff.1 h1; obtain ⟨y,hy,hr,ho⟩:=(hlr i u hu).2 j c h2; rw [hy]; exact hr
theorem arg_cell {P:Program} {w:World} {t:TypeId} {T:Type} {f:T→AV} (hr:Rd P w t 1 (fun v=>[f v])) {H:Type} {enc:TypeId×Value→H} {base:Nat} {spare:Nat→Bool} {held:Bool} {y:Value} (hy:y.cells.toList=[y]) {d:DataW H} {ps:List MemPlace}
  (h:DataW.Trod enc P w base spare held t y d ps) {κ:Kap} {D:Nat→Prop}:∃ v:T,VRel (Old w) κ D w (f v) y:=by
 obtain ⟨fuel,hf⟩:=h; rw [hy] at hf; obtain ⟨v,_,h2⟩:=hr.2.2 H enc base spare held fuel _ _ hf; exact ⟨v,.c (h2 0 _ _ rfl rfl).1⟩
end Go.Ab
end
