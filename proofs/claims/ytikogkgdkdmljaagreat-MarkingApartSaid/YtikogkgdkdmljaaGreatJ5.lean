/- What the log keeps depends on the set of events alone; the reference keeps the same. -/
import Derived.Test.YtikogkgdkdmljaaGreatJ4
import Derived.Test.YtikogkgdkdmljaaGreatAb9
import Derived.OpenShut
import Derived.DataElems
import Derived.ChangeArms
set_option linter.unusedSimpArgs false
set_option linter.unusedVariables false
noncomputable section
namespace Go.Proofs.YtikogkgdkdmljaaGreat
open Go.Ab
set_option maxRecDepth 10000
abbrev idE (e:zab):Int×Int:=(e.Stamp.Source,e.Stamp.Seq)
theorem zeh {κ ν:Type} [DecidableEq κ] (k:κ) (v:ν):∀ l:List (κ×ν),mfind k (mput k v l)=some v
 | []=>by simp [mput,mfind]
 | p :: r=>by
   unfold mput; split
   · simp [mfind]
   · rename_i h; unfold mfind; rw [if_neg h]; exact zeh k v r
theorem zex {κ ν:Type} [DecidableEq κ] {k j:κ} (v:ν) (h:j≠k):∀ l:List (κ×ν),mfind j (mput k v l)=mfind j l
 | []=>by simp [mput,mfind,Ne.symm h]
 | p :: r=>by
   unfold mput; split
   · rename_i hp; simp only [mfind]; rw [if_neg (Ne.symm h),if_neg (fun e=>h (by rw [← e,hp]))]
   · simp only [mfind]; rw [zex v h r]
theorem zp5 {κ ν:Type} [DecidableEq κ]:∀ {l:List (κ×ν)} {p:κ×ν},(l.map (·.1)).Nodup→p∈l→mfind p.1 l=some p.2
 | [],_,_,h=>by cases h
 | x :: r,p,hn,h=>by
   obtain ⟨n1,n2⟩:=zfP.1 hn; unfold mfind; rcases za7.1 h with e | h
   · rw [e,if_pos rfl]
   · rw [if_neg (fun e=>n1 (zbA.2 ⟨p,h,e.symm⟩))]; exact zp5 n2 h
def Said (l:List zab) (i:Nat) (m:zcO):Prop:=∀ k,match mfind k m with
 | none=>∀ j e,j < i→l[j]?=some e→eventB e=true→idE e≠k
 | some g=>g.disputed=true↔∃ j e,j < i∧l[j]?=some e∧eventB e=true∧idE e=k∧l[g.first.toNat]?≠some e
theorem zyw {l:List zab} {m:zcO} {i:Nat} {e:zab} (h:Said l i m) (he:l[i]?=some e):Said l (i+1) (zdC l m i e):=by
 intro k; have hk:=h k; unfold zdC; by_cases hv:eventB e=true
 case neg =>
  rw [if_neg hv]
  cases hf:mfind k m with
  | none =>
    rw [hf] at hk; intro j f hj hjf hvf; by_cases hji:j=i
    · subst hji; rw [he] at hjf; injection hjf with hjf; subst hjf; exact absurd hvf hv
    · exact hk j f (by omega) hjf hvf
  | some g =>
    rw [hf] at hk; refine hk.trans ⟨fun ⟨j,f,h1,h2⟩=>⟨j,f,by omega,h2⟩,fun ⟨j,f,h1,h2,h3,h4⟩=>⟨j,f,?_,h2,h3,h4⟩⟩; by_cases hji:j=i
    · subst hji; rw [he] at h2; injection h2 with h2; subst h2; exact absurd h3 hv
    · omega
 rw [if_pos hv]; by_cases hke:k=idE e
 · subst hke
   cases hf:mfind (idE e) m with
   | none =>
     simp only; rw [show (e.Stamp.Source,e.Stamp.Seq)=idE e from rfl,zeh]; rw [hf] at hk; simp only [zck,false_iff]
     rintro ⟨j,f,h1,h2,h3,h4,h5⟩
     by_cases hji:j=i
     · subst hji; exact h5 (by rw [show ((j:Int)).toNat=j from rfl]; exact h2)
     · exact hk j f (by omega) h2 h3 h4
   | some g =>
     simp only; rw [show (e.Stamp.Source,e.Stamp.Seq)=idE e from rfl,zeh]; rw [hf] at hk; simp only; by_cases hs:l[g.first.toNat]?=some e
     · rw [if_pos hs]; refine hk.trans ⟨fun ⟨j,f,h1,h2⟩=>⟨j,f,by omega,h2⟩,fun ⟨j,f,h1,h2,h3,h4,h5⟩=>⟨j,f,?_,h2,h3,h4,h5⟩⟩; by_cases hji:j=i
       · subst hji; rw [he] at h2; exact absurd (hs.trans h2) h5
       · omega
     · rw [if_neg hs]; exact ⟨fun _=>⟨i,e,by omega,he,hv,rfl,hs⟩,fun _=>rfl⟩
 · have other:∀ v:za3,mfind k (mput (e.Stamp.Source,e.Stamp.Seq) v m)=mfind k m:=fun v=>zex v hke m
   have goal:∀ m':zcO,mfind k m'=mfind k m→(match mfind k m' with
     | none=>∀ j e,j < i+1→l[j]?=some e→eventB e=true→idE e≠k
     | some g=>g.disputed=true↔∃ j e,j < i+1∧l[j]?=some e∧eventB e=true∧idE e=k∧l[g.first.toNat]?≠some e):=by
    intro m' hm; rw [hm]
    cases hf:mfind k m with
    | none =>
      rw [hf] at hk; intro j f hj hjf hvf; by_cases hji:j=i
      · subst hji; rw [he] at hjf; injection hjf with hjf; subst hjf; exact fun h=>hke h.symm
      · exact hk j f (by omega) hjf hvf
    | some g =>
      rw [hf] at hk; refine hk.trans ⟨fun ⟨j,f,h1,h2⟩=>⟨j,f,by omega,h2⟩,fun ⟨j,f,h1,h2,h3,h4⟩=>⟨j,f,?_,h2,h3,h4⟩⟩; by_cases hji:j=i
      · subst hji; rw [he] at h2; injection h2 with h2; subst h2; exact absurd h4.1.symm hke
      · omega
   cases mfind (e.Stamp.Source,e.Stamp.Seq) m with
   | none=>exact goal _ (other _)
   | some g=>exact goal _ (other _)
theorem zqv {l:List zab}:∀ {r:List zab} {i:Nat} {m:zcO},Said l i m→l.drop i=r→Said l (i+r.length) (zcI l r i m)
 | [],i,m,h,_=>h
 | e :: r,i,m,h,hd=>by
   unfold zcI
   have he:l[i]?=some e:=by have:=congrArg (·[0]?) hd; simpa using this
   have:=zqv (zyw h he) (r:=r) (by
    have:=congrArg (List.drop 1) hd
    simpa [List.drop_drop] using this)
   rw [zfQ,show i+(r.length+1)=i+1+r.length by omega]; exact this
theorem zBi (l:List zab):Said l l.length (zbM l):=by have:=zqv (l:=l) (r:=l) (i:=0) (m:=[]) (fun k=>by simp [mfind]) rfl; rw [zbO] at this; exact this
def Stays (l:List zab) (e:zab):Prop:=e∈l∧eventB e=true∧∀ f∈l,eventB f=true→idE f=idE e→f=e
theorem zsU {l:List zab} {e:zab}:e∈keepS l↔Stays l e:=by
 have hK:=zmN l; have hS:=zBi l; constructor
 · intro h; obtain ⟨p,hp,hpe⟩:=zpl.1 (show e∈(zbM l).filterMap (pickG l) from h); obtain ⟨e',h1,h2,h3⟩:=hK.2 p hp; unfold pickG at hpe; split at hpe
   · cases hpe
   rename_i hd; rw [h1] at hpe; injection hpe with hpe; subst hpe; refine ⟨zbU h1,h3,fun f hf hvf hid=>?_⟩; have:=hS p.1; rw [zp5 hK.1 hp] at this; simp only at this; obtain ⟨j,hj,hjf⟩:=zne.1 hf; by_cases hfe:l[p.2.first.toNat]?=some f
   · rw [h1] at hfe; injection hfe with hfe; exact hfe.symm
   · exact absurd (this.2 ⟨j,f,hj,by rw [zaB hj,hjf],hvf,by rw [hid]; exact h2,hfe⟩) hd
 · rintro ⟨h1,h2,h3⟩
   obtain ⟨j,hj,hje⟩:=zne.1 h1; have hje':l[j]?=some e:=by rw [zaB hj,hje]
   have:=hS (idE e)
   cases hf:mfind (idE e) (zbM l) with
   | none=>rw [hf] at this; exact absurd rfl (this j e hj hje' h2)
   | some g =>
     rw [hf] at this; simp only at this; have hp:=zh5 hf; obtain ⟨e',q1,q2,q3⟩:=hK.2 _ hp; have he':e'=e:=h3 e' (zbU q1) q3 q2; subst he'; show e'∈(zbM l).filterMap (pickG l); refine zpl.2 ⟨_,hp,?_⟩; unfold pickG; rw [if_neg]
     · exact q1
     · intro hd; obtain ⟨i,f,r1,r2,r3,r4,r5⟩:=this.1 hd; have:=h3 f (zbU r2) r3 r4; subst this; exact r5 q1
theorem zmP (l:List zab):(keepS l).Nodup:=by refine List.Pairwise.imp ?_ (zwO l); intro a b h e; exact h (by rw [e])
theorem canon_same {l r:List zab} (h:∀ e,Stays l e↔Stays r e):canonS l=canonS r:=by have hp:List.Perm (keepS l) (keepS r):=(zpE (zmP l) (zmP r)).2 (fun e=>by rw [zsU,zsU]; exact h e); exact zsB ((zdl l).trans hp) (zmz l)
theorem zma {l:List zab} {e:zab}:e∈canonS l↔Stays l e:=by rw [(zdl l).mem_iff,zsU]
theorem canon_inj {l:List zab} {a b:zab} (ha:a∈canonS l) (hb:b∈canonS l) (h:idE a=idE b):a=b:=by obtain ⟨_,_,h3⟩:=zma.1 hb; obtain ⟨h1,h2,_⟩:=zma.1 ha; exact h3 a h1 h2 h
theorem zxt {l r:List zab} (h:∀ e∈r,e∈canonS l) (e:zab):Stays r e↔e∈r:=by refine ⟨fun q=>q.1,fun q=>⟨q,(zma.1 (h e q)).2.1,fun f hf _ hid=>canon_inj (h f hf) (h e q) hid⟩⟩
theorem zA8 (l:List zab):canonS (canonS l)=canonS l:=canon_same fun e=>by rw [zxt (fun _ h=>h),zma]
theorem zAo (l:List zab) (p:zab→Bool):canonS ((canonS l).filter p)=(canonS l).filter p:=by
 have h1:∀ e,e∈keepS ((canonS l).filter p)↔e∈(canonS l).filter p:=fun e=>by rw [zsU,zxt (fun e h=>(zpm.1 h).1)]
 have hn:((canonS l).filter p).Nodup:=((zdl l).nodup_iff.2 (zmP l)).filter _; refine (zsB ?_ ((zmz l).filter _)).symm; exact (zpE hn (zmP _)).2 (fun e=>(h1 e).symm)
def Alike (fb:DMap) (m:zcO):Prop:=∀ k,mfind k fb.1=(mfind k m).map (·.first)∧(mfind k fb.2).getD false=((mfind k m).map (·.disputed)).getD false
theorem step_alike {l:List zab} {i:Nat} {e:zab} {fb:DMap} {m:zcO} (h:Alike fb m):Alike (dstep l i e fb) (zdC l m i e):=by
 unfold dstep zdC; by_cases hv:eventB e=true
 case neg=>rw [if_neg (fun q=>hv (ok_eventB q)),if_neg hv]; exact h
 rw [if_pos (zoi hv),if_pos hv]; obtain ⟨h1,h2⟩:=h (dKey e)
 cases hf:mfind (dKey e) m with
 | none =>
   rw [hf] at h1; rw [h1]
   try rw [show mfind (e.Stamp.Source,e.Stamp.Seq) m=none from hf]
   simp only [Option.map_none]; intro k; by_cases hk:k=dKey e
   · subst hk; rw [zeh,show mfind (dKey e) (mput (e.Stamp.Source,e.Stamp.Seq) (⟨(i:Int),false⟩:za3) m)=some ⟨i,false⟩ from zeh _ _ _]; refine ⟨rfl,?_⟩; rw [h2,hf]; rfl
   · rw [zex _ hk,show mfind k (mput (e.Stamp.Source,e.Stamp.Seq) (⟨(i:Int),false⟩:za3) m)=mfind k m from zex _ hk _]; exact h k
 | some g =>
   rw [hf] at h1 h2; rw [h1]
   try rw [show mfind (e.Stamp.Source,e.Stamp.Seq) m=some g from hf]
   simp only [zc6]; intro k; by_cases hs:l[g.first.toNat]?=some e
   · rw [if_pos hs,if_pos hs]; by_cases hk:k=dKey e
     · subst hk; rw [show mfind (dKey e) (mput (e.Stamp.Source,e.Stamp.Seq) (⟨g.first,g.disputed⟩:za3) m)=some ⟨g.first,g.disputed⟩ from zeh _ _ _]; exact ⟨h1,h2⟩
     · rw [show mfind k (mput (e.Stamp.Source,e.Stamp.Seq) (⟨g.first,g.disputed⟩:za3) m)=mfind k m from zex _ hk _]; exact h k
   · rw [if_neg hs,if_neg hs]; by_cases hk:k=dKey e
     · subst hk; rw [show mfind (dKey e) (mput (e.Stamp.Source,e.Stamp.Seq) (⟨g.first,true⟩:za3) m)=some ⟨g.first,true⟩ from zeh _ _ _]; exact ⟨h1,by rw [zeh]; rfl⟩
     · rw [show mfind k (mput (e.Stamp.Source,e.Stamp.Seq) (⟨g.first,true⟩:za3) m)=mfind k m from zex _ hk _]; exact ⟨(h k).1,by rw [zex _ hk]; exact (h k).2⟩
theorem zxM {l:List zab}:∀ {r:List zab} {i:Nat} {fb:DMap} {m:zcO},Alike fb m→Alike (dfold l r i fb) (zcI l r i m)
 | [],_,_,_,h=>h
 | e :: r,i,fb,m,h=>by unfold dfold zcI; exact zxM (step_alike h)
theorem zua {fb:DMap} {m:zcO} (h:Alike fb m):∀ {l:List zab} {i:Nat} {e:zab},e∈ckeep fb l i↔∃ j,l[j]?=some e∧∃ g,mfind (dKey e) m=some g∧g.first=((i+j:Nat):Int)∧g.disputed=false
 | [],i,e=>by simp [ckeep]
 | x :: r,i,e=>by
   have cond:(mfind (dKey x) fb.1=some (i:Int)∧(mfind (dKey x) fb.2).getD false=false)↔∃ g,mfind (dKey x) m=some g∧g.first=(i:Int)∧g.disputed=false:=by
    obtain ⟨h1,h2⟩:=h (dKey x); rw [h1,h2]
    cases hf:mfind (dKey x) m with
    | none=>simp
    | some g=>simp
   have ih:=zua h (l:=r) (i:=i+1) (e:=e)
   have tail:(∃ j,r[j]?=some e∧∃ g,mfind (dKey e) m=some g∧g.first=((i+1+j:Nat):Int)∧g.disputed=false)↔∃ j,0 < j∧(x :: r)[j]?=some e∧∃ g,mfind (dKey e) m=some g∧g.first=((i+j:Nat):Int)∧g.disputed=false:=by
    constructor
    · rintro ⟨j,h1,g,h2,h3,h4⟩
      exact ⟨j+1,by omega,by simpa using h1,g,h2,by rw [h3]; omega,h4⟩
    · rintro ⟨j,h0,h1,g,h2,h3,h4⟩
      obtain ⟨j,rfl⟩:∃ q,j=q+1:=⟨j - 1,by omega⟩
      exact ⟨j,by simpa using h1,g,h2,by rw [h3]; omega,h4⟩
   unfold ckeep; split
   · rename_i hc; rw [za7,ih,tail]; constructor
     · rintro (rfl | ⟨j,_,h1⟩)
       · exact ⟨0,rfl,by simpa using cond.1 hc⟩
       · exact ⟨j,h1⟩
     · rintro ⟨j,h1,h2⟩
       cases j with
       | zero=>simp only [zeB,zax] at h1; exact .inl h1.symm
       | succ j=>exact .inr ⟨j+1,by omega,h1,h2⟩
   · rename_i hc; rw [ih,tail]; constructor
     · rintro ⟨j,_,h1⟩
       exact ⟨j,h1⟩
     · rintro ⟨j,h1,h2⟩
       cases j with
       | zero=>simp only [zeB,zax] at h1; subst h1; exact absurd (cond.2 (by simpa using h2)) hc
       | succ j=>exact ⟨j+1,by omega,h1,h2⟩
theorem zt9 {fb:DMap} {m:zcO} (h:Alike fb m):∀ {l:List zab} {i:Nat},(ckeep fb l i).Pairwise (fun a b=>idE a≠idE b)
 | [],_=>by simp [ckeep]
 | x :: r,i=>by
   unfold ckeep; split
   · rename_i hc; refine zjY.2 ⟨fun y hy e=>?_,zt9 h⟩; obtain ⟨j,_,g,h1,h2,_⟩:=(zua h).1 hy; have:=(h (dKey x)).1; rw [hc.1,show dKey x=dKey y from e,h1] at this; simp only [zc6,zax] at this; omega
   · exact zt9 h
theorem ckeep_perm (l:List zab):List.Perm (ckeep (dispF l) l 0) (keepS l):=by
 have hA:Alike (dispF l) (zbM l):=zxM (fun k=>by simp [mfind]); refine (zpE ?_ (zmP l)).2 (fun e=>?_)
 · refine List.Pairwise.imp ?_ (zt9 hA); intro a b h q; exact h (by rw [q])
 · rw [zua hA]; have hK:=zmN l; constructor
   · rintro ⟨j,h1,g,h2,h3,h4⟩
     show e∈(zbM l).filterMap (pickG l); refine zpl.2 ⟨_,zh5 h2,?_⟩; unfold pickG; simp only [h4,zck,if_false]; rw [h3,zbO]; exact h1
   · intro h; obtain ⟨p,hp,hpe⟩:=zpl.1 (show e∈(zbM l).filterMap (pickG l) from h); obtain ⟨e',h1,h2,h3⟩:=hK.2 p hp; unfold pickG at hpe; split at hpe
     · cases hpe
     rename_i hd; have q:=hpe; rw [h1] at q; injection q with q; subst q; have:=zus l p hp; refine ⟨p.2.first.toNat,hpe,p.2,?_,by omega,by simpa using hd⟩; rw [show dKey e'=p.1 from h2]; exact zp5 hK.1 hp
theorem zAh (l:List zab) (hl:l.length≤2000) (hp:∀ e∈l,e.Pages.length≤1000000):cw zhC [.sl 9 (List.map zaa l)] []=some (zcJ (canonS l,0)):=by obtain ⟨r,h1,h2,h3⟩:=zAZ l hl hp; rw [h1,zsB (h2.trans (ckeep_perm l)) (h3.imp fun {a b} h=>by unfold leE at h; simpa using h)]
theorem zAg (l:List zab) (hl:l.length≤2000) (hp:∀ e∈l,e.Pages.length≤1000000):cw zlP [.sl 9 (List.map zaa l)] []=some (zlW (canonS l)):=by refine zwA l ?_; rw [zAh l hl hp,zl9]; rfl
def deskE (s:zaz) (i:Nat) (d:zah) (e:zab):zah:=
 if e.Kind=1 then (if e.Marker.toNat=i then reinS e.Stamp d else d)
 else if e.Kind=0∧e.Stamp.Source.toNat=i then (match fitS s e with
  | some q=>(match seedS s e.Script,s.Papers[q]? with
    | some sd,some p=>noteS s p sd e d
    | none,_=>{ d with marks:=d.marks++[⟨e,d.watch.Suspended⟩] }
    | _,_=>d)
  | none=>d)
 else d
def reopE (R:Reop) (e:zab):Reop:=if e.Kind=2 then mput ⟨e.Script,e.Part⟩ e.Stamp R else R
theorem evS_fst (s:zaz) (st:Desks×Reop) (e:zab) (i:Nat):(evS s st e).1 i=(st.1 i).map (fun d=>deskE s i d e):=by
 have idm:∀ (f:zah→zah),(∀ d,f d=d)→st.1 i=(st.1 i).map f:=fun f h=>by
  cases st.1 i with
  | none=>rfl
  | some d=>simp [h d]
 by_cases k1:e.Kind=1
 · have hd:∀ d,deskE s i d e=if e.Marker.toNat=i then reinS e.Stamp d else d:=fun d=>by unfold deskE; rw [if_pos k1]
   unfold evS; rw [if_pos k1]; by_cases hi:e.Marker.toNat=i
   · simp only [hd,hi,if_true]
     cases h:st.1 i with
     | none=>simp [h]
     | some d=>simp [upd]
   · simp only [hd,hi,if_false]
     cases h:st.1 e.Marker.toNat with
     | none=>exact idm _ fun d=>rfl
     | some d0=>simp only [upd]; rw [if_neg (show ¬ i=e.Marker.toNat from fun h=>hi h.symm)]; exact idm _ fun d=>rfl
 by_cases k0:e.Kind=0
 case neg =>
  have hd:∀ d,deskE s i d e=d:=fun d=>by unfold deskE; rw [if_neg k1,if_neg (fun h=>k0 h.1)]
  have:(evS s st e).1=st.1:=by
   unfold evS; rw [if_neg k1]; split
   · rfl
   · rfl
  rw [this]; exact idm _ hd
 have k2:¬ e.Kind=2:=by omega
 unfold evS; rw [if_neg k1,if_neg k2,if_pos k0]; by_cases hi:e.Stamp.Source.toNat=i
 · have hd:∀ d,deskE s i d e=(match fitS s e with
    | some q=>(match seedS s e.Script,s.Papers[q]? with
      | some sd,some p=>noteS s p sd e d
      | none,_=>{ d with marks:=d.marks++[⟨e,d.watch.Suspended⟩] }
      | _,_=>d)
    | none=>d):=fun d=>by unfold deskE; rw [if_neg k1,if_pos ⟨k0,hi⟩]
   simp only [hd,hi]
   cases h:st.1 i with
   | none=>simp [h]
   | some d =>
     cases hf:fitS s e with
     | none=>simp [h]
     | some q =>
       cases hs:seedS s e.Script with
       | none=>simp [upd]
       | some sd =>
         cases hp:s.Papers[q]? with
         | none=>simp [h,hp]
         | some p=>simp [upd,hp]
 · have hd:∀ d,deskE s i d e=d:=fun d=>by unfold deskE; rw [if_neg k1,if_neg (fun h=>hi h.2)]
   rw [show (fun d=>deskE s i d e)=id from funext hd,Option.map_id]
   cases h:st.1 e.Stamp.Source.toNat with
   | none=>rfl
   | some d0 =>
     cases hf:fitS s e with
     | none=>rfl
     | some q =>
       cases hs:seedS s e.Script with
       | none=>simp only [upd]; rw [if_neg (show ¬ i=e.Stamp.Source.toNat from fun h=>hi h.symm)]; rfl
       | some sd =>
         cases hp:s.Papers[q]? with
         | none=>simp only [hp]; rfl
         | some p=>simp only [hp,upd]; rw [if_neg (show ¬ i=e.Stamp.Source.toNat from fun h=>hi h.symm)]; rfl
theorem evS_snd (s:zaz) (st:Desks×Reop) (e:zab):(evS s st e).2=reopE st.2 e:=by
 unfold reopE; by_cases k1:e.Kind=1
 · rw [iNQ]; unfold evS; rw [if_pos k1]; split <;> rfl
 by_cases k2:e.Kind=2
 · rw [if_pos k2]; unfold evS; rw [if_neg k1,if_pos k2]
 rw [if_neg k2]; unfold evS; rw [if_neg k1,if_neg k2]; split
 · split
   · split <;> rfl
   · rfl
 · rfl
theorem walk_fst (s:zaz):∀ (ev:List zab) (st:Desks×Reop) (i:Nat),(ev.foldl (evS s) st).1 i=(st.1 i).map (fun d=>ev.foldl (deskE s i) d)
 | [],st,i=>by simp
 | e :: r,st,i=>by rw [znm,walk_fst s r (evS s st e) i,evS_fst,Option.map_map]; rfl
theorem walk_snd (s:zaz):∀ (ev:List zab) (st:Desks×Reop),(ev.foldl (evS s) st).2=ev.foldl reopE st.2
 | [],st=>rfl
 | e :: r,st=>by rw [znm,walk_snd s r (evS s st e),evS_snd]; rfl
theorem zr3 (s:zaz) (ev:List zab) (i:Nat):(walkS s ev).1 i=(seats s.Markers i).map (fun d=>ev.foldl (deskE s i) d):=walk_fst s ev _ i
theorem zzk (s:zaz) (ev:List zab):(walkS s ev).2=ev.foldl reopE []:=walk_snd s ev _
theorem canon_asc (l:List zab):(canonS l).Pairwise (fun a b=>lessS a.Stamp b.Stamp=true):=by
 have h1:=zmz l
 have h2:(canonS l).Pairwise (fun a b=>idE a≠idE b):=by refine (List.Perm.pairwise_iff (fun {a b} h=>(Ne.symm h:_)) (zdl l)).2 ?_; exact zwO l
 refine (h1.and h2).imp ?_; intro a b ⟨q1,q2⟩
 cases h:lessS a.Stamp b.Stamp with
 | true=>rfl
 | false=>exact absurd (by unfold idE; rw [lessS_eq h q1]) q2
theorem lessS_tr {a b c:zaM} (h1:lessS a b=true) (h2:lessS b c=true):lessS a c=true:=by
 unfold lessS at *
 grind
theorem walk_ind {s:zaz} {ev:List zab} {i:Nat} (Q:List zab→zah→Prop)
  (h0:∀ m∈s.Markers,m.ID.toNat=i→Q [] (desk0 m.Level))
  (h1:∀ (pre:List zab) (e:zab) (post:List zab) (d:zah),ev=pre++e :: post→Q pre d→Q (pre++[e]) (deskE s i d e))
  {d:zah} (h:(walkS s ev).1 i=some d):Q ev d:=by
 rw [zr3] at h
 cases hs:seats s.Markers i with
 | none=>rw [hs] at h; cases h
 | some d0 =>
   rw [hs] at h; injection h with h; obtain ⟨m,m1,m2,rfl⟩:=zuG _ _ _ hs
   have key:∀ (post pre:List zab) (d:zah),ev=pre++post→Q pre d→Q ev (post.foldl (deskE s i) d):=by
    intro post
    induction post with
    | nil=>intro pre d e q; rw [e,zjW]; exact q
    | cons x r ih=>intro pre d e q; exact ih (pre++[x]) _ (by rw [e]; simp) (h1 pre x r d e q)
   rw [← h]; exact key ev [] _ (by simp) (h0 m m1 m2)
set_option maxRecDepth 20000
theorem few_of {l:List zab} (h:l.length < 200) (hp:∀ e∈l,e.Pages.length≤1000000):FewEv l:=
 ⟨by omega,by
  have h1:=zsP l; have h2:(keepS l).length≤(zbM l).length:=zpF _ _
  omega,hp⟩
def zyJ (m:zbk) (sc pa:Int):List zbv:=m.Given.filter fun g=>g.Script == sc && g.Part == pa
theorem c_Counting (m:zbk) (sc pa:Int) (hl:m.Given.length≤1000000):cw zj7 [.agg (zbV m),I sc,I pa] []=some (zg7 (zyJ m sc pa)):=by
 refine zue m sc pa ?_
 have key:∀ (n i:Nat) (out:List zbv),i+n=m.Given.length→out.length≤i→zd1 m sc pa (List.map zbd out) i=some (zg7 (out++(m.Given.drop i).filter fun g=>g.Script == sc && g.Part == pa)):=by
  intro n
  induction n with
  | zero=>intro i out hi ho; refine zm0 _ _ _ _ _ ?_; rw [zam,zaO (by omega),zan rfl,zgi (by omega)]; simp; rfl
  | succ n ih =>
    intro i out hi ho; have hlt:i < m.Given.length:=by omega
    refine zm0 _ _ _ _ _ ?_; rw [zam,zaD (by omega),cPQ,za2,zj2,zaB hlt,zaX,w6Q,show ((i:Int)+1)=((i+1:Nat):Int) by omega,zc3 hlt,zjZ]
    cases h1:(m.Given[i].Script == sc) with
    | false=>rw [zat,zid,iNs]; exact ih (i+1) out (by omega) (by omega)
    | true =>
      cases h2:(m.Given[i].Part == pa) with
      | false=>rw [zaF,zat,zpD,iNs]; exact ih (i+1) out (by omega) (by omega)
      | true=>rw [zaF,zaF,zni,if_pos rfl,zan rfl,zan (by simp only [zam]; omega),zan rfl,zcm zbd]; have:=ih (i+1) (out++[m.Given[i]]) (by omega) (by simp; omega); rw [zge] at this; exact this
 have:=key m.Given.length 0 [] (by omega) (by simp); rw [znr,zsc] at this; exact this
def suspB (id:Int) (a:zaM) (x:zba):Bool:=x.Marker == id && !lessS a x.At && (!x.Lifted || lessS a x.Until)
def zmV (m:zbk) (id:Int) (a:zaM):Bool:=m.Suspensions.any (suspB id a)
theorem ztj (x:zba) (id:Int) (a:zaM):cw zcr [.agg (zag x),.fp [I id],.fp [I a.Time,I a.Source,I a.Seq]] []=some (zai (suspB id a x)):=by
 refine zrH x id a ?_; rw [zrA,za4,cmpS_le,zrA,za4,zpS]; unfold suspB
 cases (x.Marker == id) with
 | false=>rfl
 | true =>
   cases lessS a x.At with
   | true=>rfl
   | false=>cases x.Lifted <;> rfl
theorem c_idxS (l:List zba) (id:Int) (a:zaM) (hl:l.length≤1000000):cw zcG [.sl 12 (List.map zag l),.fn zcr [.fp [I id],.fp [I a.Time,I a.Source,I a.Seq]]] []=some (zbh (match fnd (suspB id a) 0 l with | some (i,_)=>(i:Int) | none=>-1)):=by
 refine zgl l id a ?_; refine zir l (suspB id a) (fun i=>zb5 l id a i) (fun o=>zbh (match o with | some (i,_)=>(i:Int) | none=>-1)) ?_ ?_ ?_
 · exact zcx _ _ _ _ (by simp (disch:=omega) only [zam,zaO]; rfl)
 · intro i hi h; refine zcx _ _ _ _ ?_; simp (disch:=omega) only [zam,zaD,zan,za2,zdy,zaB hi,zaX,ztj,zao]; rw [h,zaF]; rfl
 · intro i hi y h hk; refine zcx _ _ _ _ ?_; simp (disch:=omega) only [zam,zaD,zan,za2,zdy,zaB hi,zaX,ztj,zao]; rw [h,zat,w6Q]; exact hk
theorem zvF (m:zbk) (id:Int) (a:zaM) (hl:m.Suspensions.length≤1000000):cw zgw [.agg (zbV m),I id,.agg (zbD a)] []=some (zai (zmV m id a)):=by
 refine ztF m id a ?_; rw [zfZ m.Suspensions id a (y:=zai (zmV m id a)) ?_,zao]
 · rfl
 · rw [c_idxS _ _ _ hl,za4]; unfold zmV; rw [← fnd_any]
   cases fnd (suspB id a) 0 m.Suspensions with
   | none=>rfl
   | some q=>simp; rfl
theorem c_rSame (a b:zbk) (h1:a.Given.length≤1000000) (h2:a.Suspensions.length≤1000000):cw zpZ [.agg (zbV a),.agg (zbV b)] []=some (zai (dec (a=b))):=by
 refine zAw a b ?_; obtain ⟨ag,us⟩:=a; obtain ⟨bg,vs⟩:=b; simp only at h1 h2; simp only [zam]; by_cases hg:ag.length=bg.length
 case neg=>rw [show ((ag.length:Int) != (bg.length:Int))=true by simp only [bne_iff_ne,ne_eq]; omega,zaF,zbq (fun h=>hg (by injection h with h _; rw [h]))]; rfl
 rw [show ((ag.length:Int) != (bg.length:Int))=false by simp [hg],zat]; by_cases hs:us.length=vs.length
 case neg=>rw [show ((us.length:Int) != (vs.length:Int))=true by simp only [bne_iff_ne,ne_eq]; omega,zaF,zbq (fun h=>hs (by injection h with _ h; rw [h]))]; rfl
 rw [show ((us.length:Int) != (vs.length:Int))=false by simp [hs],zat]
 have eqG:∀ x y:zbv,(x.Script == y.Script && (x.Part == y.Part && (x.Marker == y.Marker && (x.Level == y.Level && (x.Value == y.Value && (x.Stamp.Time == y.Stamp.Time && (x.Stamp.Source == y.Stamp.Source && (x.Stamp.Seq == y.Stamp.Seq && true)) && true))))))=decide (x=y):=by
  rintro ⟨a1,a2,a3,a4,a5,a6,a7,a8⟩ ⟨b1,b2,b3,b4,b5,b6,b7,b8⟩
  rw [zuT]; simp [and_assoc]
 have eqS:∀ x y:zba,(x.Marker == y.Marker && (x.Good.Time == y.Good.Time && (x.Good.Source == y.Good.Source && (x.Good.Seq == y.Good.Seq && true)) && (x.At.Time == y.At.Time && (x.At.Source == y.At.Source && (x.At.Seq == y.At.Seq && true)) && (x.Until.Time == y.Until.Time && (x.Until.Source == y.Until.Source && (x.Until.Seq == y.Until.Seq && true)) && (x.First == y.First && (x.Lifted == y.Lifted && true))))))=decide (x=y):=by
  rintro ⟨a1,⟨a2,a3,a4⟩,⟨a5,a6,a7⟩,⟨a8,a9,a10⟩,a11,a12⟩ ⟨b1,⟨b2,b3,b4⟩,⟨b5,b6,b7⟩,⟨b8,b9,b10⟩,b11,b12⟩
  rw [zuT]; simp [and_assoc]
 have L2:=zlL us.length (fun j hj=>us[j]=vs[j]'(by omega)) (fun i=>zkK ⟨ag,us⟩ ⟨bg,vs⟩ i) zai ?_ ?_ ?_
 · have L1:=znv ag.length (fun j hj=>ag[j]=bg[j]'(by omega)) (fun i=>zkJ ⟨ag,us⟩ ⟨bg,vs⟩ i) (fun y=>y=zai false) (zai (dec (∀ (j:Nat) (hj:j < us.length),us[j]=vs[j]'(by omega)))) ?_ ?_ ?_
   · rcases L1 with ⟨q1,q2⟩ | ⟨⟨j,hj,q1⟩,y,rfl,q3⟩
     · have e:dec (∀ (j:Nat) (hj:j < us.length),us[j]=vs[j]'(by omega))=dec ((⟨ag,us⟩:zbk)=⟨bg,vs⟩):=by
        refine zkF ⟨fun h=>?_,fun h=>?_⟩
        · rw [zpC hg (fun i h1 _=>q1 i h1),zpC hs (fun i h1 _=>h i h1)]
        · injection h with _ h; subst h; intros; rfl
       rw [← e]; exact q2
     · rw [zbq (fun h=>q1 (by injection h with h _; subst h; rfl))]; exact q3
   · intro _; refine znS _ _ _ ?_; simp (disch:=omega) only [zam,zaO]; exact L2
   · intro i hi _ hn; refine ⟨_,rfl,znS _ _ _ ?_⟩; simp (disch:=omega) only [zam,zaD,zan,za2,zj2,zaB hi,zaB (show i < bg.length by omega),zaX,eqG]; rw [decide_eq_false hn,zcc,zaF]; rfl
   · intro i hi y hn hk; refine znS _ _ _ ?_; simp (disch:=omega) only [zam,zaD,zan,za2,zj2,zaB hi,zaB (show i < bg.length by omega),zaX,eqG]; rw [decide_eq_true hn,zbH,zat,w6Q]; exact hk
 · refine znT _ _ _ ?_; simp (disch:=omega) only [zam,zaO]; rfl
 · intro i hi hn; refine znT _ _ _ ?_; simp (disch:=omega) only [zam,zaD,zan,za2,zdy,zaB hi,zaB (show i < vs.length by omega),zaX,eqS]; rw [decide_eq_false hn,zcc,zaF]; rfl
 · intro i hi y hn hk; refine znT _ _ _ ?_; simp (disch:=omega) only [zam,zaD,zan,za2,zdy,zaB hi,zaB (show i < vs.length by omega),zaX,eqS]; rw [decide_eq_true hn,zbH,zat,w6Q]; exact hk
structure FairD (i:Nat) (pre:List zab) (d:zah):Prop where
 mrk:∀ x∈d.marks,x.event∈pre
 sAt:∀ y∈d.suspensions,(∃ e∈pre,y.At=e.Stamp)∧(y.Lifted=true→∃ e∈pre,y.Until=e.Stamp)∧y.Marker=(i:Int)
 lift:d.watch.Suspended=false→∀ y∈d.suspensions,y.Lifted=true
 lift2:d.watch.Suspended=true→∀ (k:Nat) (y:zba),d.suspensions[k]?=some y→(k+1≠d.suspensions.length→y.Lifted=true)∧(k+1=d.suspensions.length→y.Lifted=false)
 out:∀ x∈d.marks,x.void=false→∀ y∈d.suspensions,lessS x.event.Stamp y.At=true∨(y.Lifted=true∧lessS x.event.Stamp y.Until=false)
 bad:∀ x∈d.marks,x.void=false→∀ y∈d.suspensions,y.First=false→lessS y.Good x.event.Stamp=true→lessS y.At x.event.Stamp=true
 per:∀ (k:Nat) (x:zbj),d.marks[k]?=some x→(k:Int) < d.period→lessS d.started x.event.Stamp=false
 st:d.period≤0∨∃ e∈pre,d.started=e.Stamp
 good:d.some=true→d.period≤0∨lessS d.started d.good=true
 pos:d.period≤(d.marks.length:Int)
theorem FairD.mono {i pre d} (h:FairD i pre d) (e:zab):FairD i (pre++[e]) d:=by
 have up:∀ {f:zab},f∈pre→f∈pre++[e]:=fun h=>aLiAs73 _ h
 refine ⟨fun x hx=>up (h.mrk x hx),fun y hy=>?_,h.lift,h.lift2,h.out,h.bad,h.per,?_,h.good,h.pos⟩
 · obtain ⟨⟨f,f1,f2⟩,g,m⟩:=h.sAt y hy; exact ⟨⟨f,up f1,f2⟩,fun hl=>by obtain ⟨q,q1,q2⟩:=g hl; exact ⟨q,up q1,q2⟩,m⟩
 · rcases h.st with q | ⟨f,f1,f2⟩
   · exact .inl q
   · exact .inr ⟨f,up f1,f2⟩
theorem FairD.rein {i pre d} (h:FairD i pre d) {e:zab} (hlt:∀ f∈pre,lessS f.Stamp e.Stamp=true):FairD i (pre++[e]) (reinS e.Stamp d):=by
 unfold reinS; split
 case isFalse=>exact h.mono e
 rename_i hs; have h':=h.mono e
 have mem:∀ y'∈d.suspensions.modify (d.suspensions.length - 1) (fun x=>{ x with Lifted:=true,Until:=e.Stamp }),∃ y∈d.suspensions,(y'={ y with Lifted:=true,Until:=e.Stamp }∧y.Lifted=false)∨(y'=y∧y.Lifted=true):=by
  intro y' hy; obtain ⟨k,hk⟩:=aLiAs63 hy; rw [List.getElem?_modify] at hk
  cases hg:d.suspensions[k]? with
  | none=>rw [hg] at hk; simp at hk
  | some y =>
    rw [hg] at hk; have hlen:k < d.suspensions.length:=(zbu.1 hg).1; refine ⟨y,zbU hg,?_⟩; obtain ⟨q1,q2⟩:=h.lift2 hs k y hg; by_cases hl:d.suspensions.length - 1=k
    · left; exact ⟨by simpa [hl,eq_comm] using hk,q2 (by omega)⟩
    · right; exact ⟨by simpa [hl,eq_comm] using hk,q1 (by omega)⟩
 refine ⟨h'.mrk,fun y' hy=>?_,fun _ y' hy=>?_,fun hh=>absurd hh (by simp),fun x hx hv y' hy=>?_,fun x hx hv y' hy hf hg=>?_,fun k x hk _=>?_,.inr ⟨e,by simp,rfl⟩,fun hh=>absurd hh (by simp),by simp⟩
 · obtain ⟨y,y1,y2⟩:=mem y' hy; obtain ⟨a1,a2,a3⟩:=h'.sAt y y1; rcases y2 with ⟨rfl,_⟩ | ⟨rfl,_⟩
   · exact ⟨a1,fun _=>⟨e,by simp,rfl⟩,a3⟩
   · exact ⟨a1,a2,a3⟩
 · obtain ⟨y,y1,y2⟩:=mem y' hy; rcases y2 with ⟨rfl,_⟩ | ⟨rfl,q⟩
   · rfl
   · exact q
 · obtain ⟨y,y1,y2⟩:=mem y' hy; rcases y2 with ⟨rfl,q⟩ | ⟨rfl,_⟩
   · rcases h.out x hx hv y y1 with r | ⟨r,_⟩
     · exact .inl r
     · rw [q] at r; cases r
   · exact h.out x hx hv _ y1
 · obtain ⟨y,y1,y2⟩:=mem y' hy; rcases y2 with ⟨rfl,_⟩ | ⟨rfl,_⟩
   · exact h.bad x hx hv y y1 hf hg
   · exact h.bad x hx hv _ y1 hf hg
 · exact znY (hlt _ (h.mrk x (zbU hk)))
theorem FairD.app {i pre d} (h:FairD i pre d) {e:zab} (hlt:∀ f∈pre,lessS f.Stamp e.Stamp=true):FairD i (pre++[e]) { d with marks:=d.marks++[⟨e,d.watch.Suspended⟩] }:=by
 have h':=h.mono e; refine ⟨fun x hx=>?_,h'.sAt,h.lift,h.lift2,fun x hx hv y hy=>?_,fun x hx hv y hy hf hg=>?_,fun k x hk hp=>?_,h'.st,h.good,?_⟩
 · rcases zb2.1 hx with hx | hx
   · exact h'.mrk x hx
   · rw [zdf.1 hx]; simp
 · rcases zb2.1 hx with hx | hx
   · exact h.out x hx hv y hy
   · rw [zdf.1 hx] at hv ⊢; have hl:=h.lift hv y hy; obtain ⟨f,f1,f2⟩:=(h.sAt y hy).2.1 hl; exact .inr ⟨hl,by rw [f2]; exact znY (hlt f f1)⟩
 · rcases zb2.1 hx with hx | hx
   · exact h.bad x hx hv y hy hf hg
   · rw [zdf.1 hx]; obtain ⟨f,f1,f2⟩:=(h.sAt y hy).1; rw [f2]; exact hlt f f1
 · have hp':(k:Int) < d.period:=hp; have:=h.pos; rw [zng (by omega)] at hk; exact h.per k x hk hp'
 · have:=h.pos; simp only [zfj,zwg]; omega
theorem FairD.susp {i pre d} (h:FairD i pre d) {e:zab} (hlt:∀ f∈pre,lessS f.Stamp e.Stamp=true) (hw:d.watch.Suspended=false) {w:zc2} (hn:w.Suspended=true) (no:List (zay×Int)) {id:Int} (hid:id=(i:Int)):FairD i (pre++[e]) (suspS id e.Stamp { d with noted:=no,watch:=w }):=by
 have h':=h.mono e; subst hid; unfold suspS; simp only; generalize hg:(if d.some then d.good else d.started)=g
 have mem:∀ (k:Nat) (x':zbj),(d.marks.mapIdx (voidIf d.period (!d.some) g))[k]?=some x'→∃ x,d.marks[k]?=some x∧x'.event=x.event∧(x'.void=false→x.void=false∧¬ (d.period≤k∧(!d.some || lessS g x.event.Stamp)=true)):=by
  intro k x' hk; rw [zjX] at hk
  cases hm:d.marks[k]? with
  | none=>rw [hm] at hk; cases hk
  | some x =>
    rw [hm] at hk; injection hk with hk; refine ⟨x,rfl,by rw [← hk,zuL],fun hv=>?_⟩; rw [← hk] at hv; unfold voidIf at hv; split at hv
    · cases hv
    · rename_i q; exact ⟨hv,q⟩
 have mem':∀ x'∈d.marks.mapIdx (voidIf d.period (!d.some) g),∃ (k:Nat) (x:zbj),d.marks[k]?=some x∧x'.event=x.event∧(x'.void=false→x.void=false∧¬ (d.period≤k∧(!d.some || lessS g x.event.Stamp)=true)):=fun x' hx=>by obtain ⟨k,hk⟩:=aLiAs63 hx; obtain ⟨x,q⟩:=mem k x' hk; exact ⟨k,x,q⟩
 refine ⟨fun x' hx=>?_,fun y hy=>?_,fun hh=>?_,fun _ k y hk=>?_,fun x' hx hv y hy=>?_,fun x' hx hv y hy hf hgd=>?_,fun k x' hk hp=>?_,h'.st,h.good,?_⟩
 · obtain ⟨k,x,q1,q2,_⟩:=mem' x' hx; rw [q2]; exact h'.mrk x (zbU q1)
 · rcases zb2.1 hy with hy | hy
   · exact h'.sAt y hy
   · rw [zdf.1 hy]; exact ⟨⟨e,by simp,rfl⟩,fun hh=>absurd hh (by simp),rfl⟩
 · rw [hn] at hh; cases hh
 · rw [zfj,zwg]; by_cases hk':k < d.suspensions.length
   · rw [zng hk'] at hk; exact ⟨fun _=>h.lift hw y (zbU hk),fun q=>absurd q (by omega)⟩
   · rw [List.getElem?_append_right (by omega)] at hk
     have:k - d.suspensions.length=0:=by have:=(zbu.1 hk).1; simp at this; omega
     rw [this] at hk; simp only [zeB,zax] at hk; exact ⟨fun q=>absurd (by omega) q,fun _=>by rw [← hk]⟩
 · obtain ⟨k,x,q1,q2,q3⟩:=mem' x' hx; have hx0:=zbU q1; rw [q2]; rcases zb2.1 hy with hy | hy
   · exact h.out x hx0 (q3 hv).1 y hy
   · rw [zdf.1 hy]; exact .inl (hlt _ (h.mrk x hx0))
 · obtain ⟨k,x,q1,q2,q3⟩:=mem' x' hx; have hx0:=zbU q1; rw [q2] at hgd ⊢; rcases zb2.1 hy with hy | hy
   · exact h.bad x hx0 (q3 hv).1 y hy hf hgd
   · rw [zdf.1 hy] at hf hgd; simp only at hf hgd; exfalso; have hs:d.some=true:=by simpa using hf
     have hk:¬ d.period≤(k:Int):=fun hk=>(q3 hv).2 ⟨hk,by simp only [hgd,Bool.or_true]⟩
     have hp:=h.per k x q1 (by omega); rw [hs,if_pos rfl] at hg; rw [← hg] at hgd; rcases h.good hs with r | r
     · omega
     · rw [lessS_tr r hgd] at hp; cases hp
 · obtain ⟨x,q1,q2,_⟩:=mem k x' hk; rw [q2]; exact h.per k x q1 hp
 · have:=h.pos; simpa using this
theorem FairD.note {i pre d} (h:FairD i pre d) {e:zab} (hlt:∀ f∈pre,lessS f.Stamp e.Stamp=true) (s:zaz) (p:zaG) (sd:GSeed) (hid:e.Stamp.Source=(i:Int)):FairD i (pre++[e]) (noteS s p sd e d):=by
 have h':=h.mono e; unfold noteS; split
 · exact h'
 · simp only; split
   · exact ⟨h'.mrk,h'.sAt,h'.lift,h'.lift2,h'.out,h'.bad,h'.per,h'.st,h'.good,h'.pos⟩
   · split
     · exact ⟨h'.mrk,h'.sAt,h'.lift,h'.lift2,h'.out,h'.bad,h'.per,h'.st,h'.good,h'.pos⟩
     · rename_i hw; have hw:d.watch.Suspended=false:=by simpa using hw
       split
       · rename_i hn; exact h.susp hlt hw hn _ hid
       · rename_i hn; split
         · refine ⟨h'.mrk,h'.sAt,fun _=>h'.lift hw,fun q=>absurd q hn,h'.out,h'.bad,h'.per,h'.st,fun _=>?_,h'.pos⟩; rcases h.st with q | ⟨f,f1,f2⟩
           · exact .inl q
           · right; simp only; rw [f2]; exact hlt f f1
         · exact ⟨h'.mrk,h'.sAt,fun _=>h'.lift hw,fun q=>absurd q hn,h'.out,h'.bad,h'.per,h'.st,h'.good,h'.pos⟩
theorem asc_at {ev pre post:List zab} {e:zab} (ha:ev.Pairwise (fun a b=>lessS a.Stamp b.Stamp=true)) (he:ev=pre++e :: post):∀ f∈pre,lessS f.Stamp e.Stamp=true:=by rw [he] at ha; exact fun f hf=>(List.pairwise_append.1 ha).2.2 f hf e (by simp)
theorem zyO {s:zaz} {ev:List zab} (ha:ev.Pairwise (fun a b=>lessS a.Stamp b.Stamp=true)) (hv:∀ e∈ev,eventB e=true) {i:Nat} {d:zah} (h:(walkS s ev).1 i=some d):FairD i ev d:=by
 refine walk_ind (FairD i) (fun m _ _=>?_) (fun pre e post d he q=>?_) h
 · exact ⟨by simp [desk0],by simp [desk0],by simp [desk0],by simp [desk0],by simp [desk0],by simp [desk0],by simp [desk0],by simp [desk0],by simp [desk0],by simp [desk0]⟩
 · have hlt:=asc_at ha he; unfold deskE; split
   · split
     · exact q.rein hlt
     · exact q.mono e
   · split
     · rename_i k; have hb:=zoi (hv e (by rw [he]; simp))
       have hid:e.Stamp.Source=(i:Int):=by have:=hb.1.2.1; omega
       split
       · split
         · exact q.note hlt _ _ _ hid
         · exact q.app hlt
         · exact q.mono e
       · exact q.mono e
     · exact q.mono e
theorem zA9 {l:List zab}:∀ e∈canonS l,eventB e=true:=fun _ he=>(zma.1 he).2.1
theorem zq8 (p:zab→Bool) (hp:∀ e,e.Kind=2→p e=true):∀ (ev:List zab) (R:Reop),(ev.filter p).foldl reopE R=ev.foldl reopE R
 | [],R=>rfl
 | e :: r,R=>by
   rw [zjZ]; split
   · exact zq8 p hp r _
   · rename_i h; rw [znm,show reopE R e=R by unfold reopE; rw [if_neg (fun k=>h (hp e k))]]; exact zq8 p hp r R
theorem zqS (s:zaz) (i:Nat) (p:zab→Bool):∀ (ev:List zab) (d:zah),(∀ e∈ev,p e=false→∀ d,deskE s i d e=d)→(ev.filter p).foldl (deskE s i) d=ev.foldl (deskE s i) d
 | [],d,_=>rfl
 | e :: r,d,h=>by
   rw [zjZ]; split
   · exact zqS s i p r _ (fun x hx=>h x (by simp [hx]))
   · rename_i hp; rw [znm,h e (by simp) (by simpa using hp)]; exact zqS s i p r d (fun x hx=>h x (by simp [hx]))
theorem zAz (l:List zbv) (p:zbv→Bool) (hi:∀ a∈l,∀ b∈l,a.Script=b.Script→a.Part=b.Part→a.Marker=b.Marker→a=b):isort zb1 (l.filter p)=(isort zb1 l).filter p:=by have srt:∀ l,(isort zb1 l).Pairwise (fun a b=>zb1 b a=false):=zmO (lt:=zb1) (fun _ _ _ h1 h2=>znI h1 h2) (fun _ _ h=>ztm h); refine zlE (lt:=zb1) ((zfA _).trans ((zfA l).filter p).symm) (srt _) ((srt l).filter p) ?_; intro a ha b hb h1 h2; have q:=zxO h1 h2; have ma:=(zpm.1 ((zfA _).mem_iff.1 ha)).1; have mb:=(zpm.1 ((zfA _).mem_iff.1 hb)).1; exact hi a ma b mb q.1 q.2.1 q.2.2
theorem zvM {α β:Type} (p:β→Bool) (f:α→List β) (l:List α):(l.flatMap f).filter p=l.flatMap fun x=>(f x).filter p:=by
 induction l with
 | nil=>rfl
 | cons x r ih=>rw [zpI,List.filter_append,ih,zpI]
theorem zsL {α β:Type} {f g:α→List β}:∀ {l:List α},(∀ x∈l,f x=g x)→l.flatMap f=l.flatMap g
 | [],_=>rfl
 | x :: r,h=>by rw [zpI,zpI,h x (by simp),zsL (fun y hy=>h y (by simp [hy]))]
def ownB (id:Int) (e:zab):Bool:=e.Kind != 0 || e.Stamp.Source == id
theorem apart_fold {s:zaz} {C:List zab} (hC:canonS C=C) {id:Int} (hid:1≤id∧id≤99):foldS s (C.filter (ownB id))=⟨(foldS s C).Given.filter (fun g=>g.Marker == id),(foldS s C).Suspensions.filter (fun y=>y.Marker == id)⟩:=by
 have hv:∀ e∈C,eventB e=true:=fun e he=>zA9 e (by rw [hC]; exact he)
 have hA:C.Pairwise (fun a b=>lessS a.Stamp b.Stamp=true):=by have:=canon_asc C; rw [hC] at this; exact this
 have hO:canonS (C.filter (ownB id))=C.filter (ownB id):=by have:=zAo C (ownB id); rw [hC] at this; exact this
 rw [fold_eq,fold_eq,hO,hC]
 have hR:(walkS s (C.filter (ownB id))).2=(walkS s C).2:=by rw [zzk,zzk]; exact zq8 _ (fun e h=>by unfold ownB; simp [h]) C []
 have same:(walkS s (C.filter (ownB id))).1 id.toNat=(walkS s C).1 id.toNat:=by rw [zr3,zr3]; congr 1; funext d; refine zqS s _ _ C d (fun e he h d=>?_); unfold ownB at h; simp only [zwi,bne_eq_false_iff_eq,beq_eq_false_iff_ne] at h; unfold deskE; have:=(zoi (hv e he)).1.2.1; rw [iNQ,if_neg (fun q=>h.2 (by omega))]
 have other:∀ i,i≠id.toNat→∀ d,(walkS s (C.filter (ownB id))).1 i=some d→d.marks=[]∧d.suspensions=[]∧d.watch.Suspended=false:=by
  intro i hi d hd; refine walk_ind (fun _ d=>d.marks=[]∧d.suspensions=[]∧d.watch.Suspended=false) (fun m _ _=>⟨rfl,rfl,rfl⟩) (fun pre e post d he q=>?_) hd; have hm:e∈C.filter (ownB id):=by rw [he]; simp
  obtain ⟨m1,m2⟩:=zpm.1 hm; unfold ownB at m2; simp only [znt,bne_iff_ne,beq_iff_eq] at m2; unfold deskE; split
  · split
    · unfold reinS; rw [if_neg (by rw [q.2.2]; simp)]; exact q
    · exact q
  · rw [if_neg (fun r=>by
     rcases m2 with m2 | m2
     · exact m2 r.1
     · exact hi (by rw [← r.2,m2]))]
    exact q
 have none_iff:∀ i,(walkS s (C.filter (ownB id))).1 i=none↔(walkS s C).1 i=none:=fun i=>by rw [zr3,zr3,Option.map_eq_none_iff,Option.map_eq_none_iff]
 congr 1
 · rw [← zAz _ _ (fun a ha b hb h1 h2 h3=>zyU ha hb h1 h2 h3)]; congr 1; rw [hR]; unfold zce; rw [zvM]; refine zsL (fun i _=>?_); by_cases hi:i=id.toNat
   · subst hi; rw [same]
     cases (walkS s C).1 id.toNat with
     | none=>rfl
     | some d=>symm; refine List.filter_eq_self.2 (fun g hg=>?_); obtain ⟨p,_,rfl⟩:=zbA.1 hg; unfold zcb; simp only [beq_iff_eq]; omega
   · have hn:∀ L:List zbv,(∀ g∈L,g.Marker=(i:Int))→L.filter (fun g=>g.Marker == id)=[]:=fun L h=>by refine List.filter_eq_nil_iff.2 (fun g hg=>?_); rw [h g hg]; simp only [beq_iff_eq]; omega
     have e1:(match (walkS s (C.filter (ownB id))).1 i with | some d=>(countS d (walkS s C).2).map fun p=>zcb i d p.2 | none=>[])=([]:List zbv):=by
      cases hd:(walkS s (C.filter (ownB id))).1 i with
      | none=>rfl
      | some d=>simp only; have:=zxu d (walkS s C).2; rw [(other i hi d hd).1] at this; have:countS d (walkS s C).2=[]:=aLiAs80.1 (by simpa using this); rw [this]; rfl
     refine zlK e1 ?_; symm; refine hn _ (fun g hg=>?_)
     cases hd:(walkS s C).1 i with
     | none=>rw [hd] at hg; cases hg
     | some d=>rw [hd] at hg; obtain ⟨p,_,rfl⟩:=zbA.1 hg; rfl
 · unfold suspTo; rw [zvM]; refine zsL (fun i _=>?_); by_cases hi:i=id.toNat
   · subst hi; rw [same]
     cases hd:(walkS s C).1 id.toNat with
     | none=>rfl
     | some d=>symm; refine List.filter_eq_self.2 (fun y hy=>?_); have:=((zyO hA hv hd).sAt y hy).2.2; simp only [beq_iff_eq]; omega
   · have e1:(match (walkS s (C.filter (ownB id))).1 i with | some d=>d.suspensions | none=>[])=([]:List zba):=by
      cases hd:(walkS s (C.filter (ownB id))).1 i with
      | none=>rfl
      | some d=>exact (other i hi d hd).2.1
     refine zlK e1 ?_; symm; refine List.filter_eq_nil_iff.2 (fun y hy=>?_)
     cases hd:(walkS s C).1 i with
     | none=>rw [hd] at hy; cases hy
     | some d=>rw [hd] at hy; have:=((zyO hA hv hd).sAt y hy).2.2; simp only [beq_iff_eq]; omega
set_option maxRecDepth 100000
def scr0 (i:Int):zaR:=⟨i,0,i,1,0,[],[-1]⟩
def S0:zaz:=⟨[⟨7,-1,1,9,[0]⟩],[scr0 1,scr0 2,scr0 3,scr0 4,scr0 5,scr0 6],[⟨0,0,[⟨1,5,0,0,0,0⟩]⟩],[⟨[[]],[0]⟩],[⟨1,[4]⟩,⟨6,[4]⟩],⟨0,0,1,1⟩⟩
theorem c_setup29:cw zlB [] []=some (zoE S0):=cw_of 30 (by kernel_rfl)
def at29 (t s v:Int):zab:=⟨⟨t,7,t⟩,0,s,0,v,0,[]⟩
theorem zrz (a b c:Int):cw zgT [I a,I b,I c] []=some (zkL (at29 a b c)):=e_law29_at a b c rfl
def l0:List zab:=[at29 9 2 1,at29 10 1 4,at29 11 3 2,at29 12 4 3,at29 13 6 1]
def l1:List zab:=l0++[⟨⟨20,0,0⟩,1,0,0,0,7,[]⟩,at29 21 3 5]
def w0d:Desks×Reop:=walkS S0 (canonS l0)
def znU (i:Nat) (d:zah) (R:Reop) (l:List zbj):List GTask:=l.filterMap fun x=>if x.void=true∧(mfind ⟨x.event.Script,x.event.Part⟩ (countS d R)).isSome=false then some ⟨x.event.Script,(i:Int)⟩ else none
def zr1 (ds:Desks) (R:Reop):Nat→Nat→List GTask
 | _,0=>[]
 | i,n+1=>(match ds i with | some d=>znU i d R d.marks | none=>[])++zr1 ds R (i+1) n
theorem ok_S0:zds S0 where
 markers:=by
  refine ⟨by decide,?_,?_⟩
  · intro m hm; simp only [S0,zdf] at hm; subst hm; refine ⟨⟨by decide,by decide,by decide,by decide,by simp⟩,fun j hj=>by simp at hj⟩
  · intro j hj; simp [S0] at hj
 scripts:=by
  refine ⟨by decide,?_,?_⟩
  · intro x hx; simp only [S0,za7,zc4,or_false] at hx; rcases hx with rfl | rfl | rfl | rfl | rfl | rfl <;> exact ⟨by decide,by decide,by decide,by decide,by decide,by decide⟩
  · intro j hj; have:j < 5:=by simp [S0] at hj; omega
    match j,this with
    | 0,_ | 1,_ | 2,_ | 3,_ | 4,_=>simp [S0,scr0]
 papers:=by decide
 len:=rfl
 schemes:=by
  intro j p c hp hc
  match j with
  | 0 =>
    simp only [S0,zeB,zax] at hp hc; subst hp hc; refine ⟨⟨by decide,by decide,by decide,?_,by decide⟩,rfl,rfl,?_⟩
    · intro x hx; simp only [zdf] at hx; subst hx; exact ⟨by decide,by decide,by decide,.inl (by decide)⟩
    · intro j x ks k hx hks hk
      match j with
      | 0=>simp only [zeB,zax] at hx hks hk; subst hx hks hk; exact ⟨⟨by simp,fun j hj=>by simp at hj⟩,by decide⟩
      | j+1=>simp at hx
  | j+1=>simp [S0] at hp
 script:=by
  intro x hx; refine ⟨0,⟨0,0,[⟨1,5,0,0,0,0⟩]⟩,⟨[[]],[0]⟩,?_,rfl,?_⟩
  · simp only [S0,za7,zc4,or_false] at hx; rcases hx with rfl | rfl | rfl | rfl | rfl | rfl <;> rfl
  · have:x.Answers=[-1]:=by simp only [S0,za7,zc4,or_false] at hx; rcases hx with rfl | rfl | rfl | rfl | rfl | rfl <;> rfl
    rw [this]; refine ⟨rfl,fun j y v hy _ hk=>?_⟩
    match j with
    | 0=>simp only [zeB,zax] at hy; subst hy; exact absurd rfl hk
    | j+1=>simp at hy
 seeds:=by decide
 asc:=by
  intro j hj; have:j < 1:=by simp [S0] at hj; omega
  match j,this with
  | 0,_=>simp [S0]
 seed:=by
  intro x hx; refine ⟨0,⟨0,0,[⟨1,5,0,0,0,0⟩]⟩,?_,?_⟩
  · simp only [S0,za7,zc4,or_false] at hx; rcases hx with rfl | rfl <;> rfl
  · have:x.Marks=[4]:=by simp only [S0,za7,zc4,or_false] at hx; rcases hx with rfl | rfl <;> rfl
    rw [this]; refine ⟨rfl,fun j y v hy hv=>?_⟩
    match j with
    | 0=>simp only [zeB,zax] at hy hv; subst hy hv; decide
    | j+1=>simp at hy
 monitor:=⟨by decide,by decide,by decide,by decide⟩
 short:=by intro c hc ks hk; simp only [S0,zdf] at hc; subst hc; simp only [zdf] at hk; subst hk; decide
 short2:=by intro m hm; simp only [S0,zdf] at hm; subst hm; decide
theorem few0:FewEv l0:=few_of (by decide) (by intro e he; simp only [l0,za7,zc4,or_false] at he; rcases he with rfl | rfl | rfl | rfl | rfl <;> decide)
theorem few1:FewEv l1:=few_of (by decide) (by intro e he; simp only [l1,l0,zb2,za7,zc4,or_false] at he; rcases he with (rfl | rfl | rfl | rfl | rfl) | rfl | rfl <;> decide)
theorem tasks_ok:zr1 w0d.1 w0d.2 0 100=[⟨3,7⟩,⟨4,7⟩]:=by kernel_rfl
theorem sort_ok:cw zfS [.row 1000 2 0 2,.fn zmI []] [(1000,⟨2,zbF,List.map zfL [⟨3,7⟩,⟨4,7⟩],false⟩)]=some (zd3 [⟨3,7⟩,⟨4,7⟩]):=cw_of 30 (by kernel_rfl)
theorem compact_ok:cw zf1 [.row 1000 2 0 2] [(1000,⟨2,zbF,List.map zfL [⟨3,7⟩,⟨4,7⟩],false⟩)]=some (zec (2,[⟨3,7⟩,⟨4,7⟩])):=cw_of 30 (by kernel_rfl)
theorem tasks_len (i:Nat) (d:zah) (R:Reop) (l:List zbj):(znU i d R l).length≤l.length:=zpF _ _
theorem ret_marks (r1:((List zab)×Int)×(List zab)) (ds:Desks) (R:Reop) (i:Nat) (d:zah) (hl:d.marks.length≤1000000) {y:AV×Mem} (out:List GTask) (ho:out.length≤1000000)
  (h:zdm r1 (deskL ds,R) (List.map zfL (out++znU i d R d.marks)) (w64 ((i:Int)+1))=some y):zdn r1 (deskL ds,R) i d (countS d R) (List.map zfL out) 0=some y:=by
 have key:∀ (n j:Nat) (o:List GTask),j+n=d.marks.length→o++znU i d R (d.marks.drop j)=out++znU i d R d.marks→o.length≤1000000+j→zdn r1 (deskL ds,R) i d (countS d R) (List.map zfL o) j=some y:=by
  intro n
  induction n with
  | zero=>intro j o hj he hlo; refine zm2 _ _ _ _ _ _ _ ?_; rw [zam,zaO (by omega)]; rw [zgi (by omega)] at he; simp only [znU,List.filterMap_nil,zjW] at he; rw [he]; exact h
  | succ n ih =>
    intro j o hj he hlo; have hlt:j < d.marks.length:=by omega
    refine zm2 _ _ _ _ _ _ _ ?_; rw [zam,zaD (by omega),cPQ,za2,zgS,zaB hlt,zaX,w6Q,show ((j:Int)+1)=((j+1:Nat):Int) by omega]; rw [show (AV.agg (zcP.enc ⟨d.marks[j].event.Script,d.marks[j].event.Part⟩))=.agg (zbe ⟨d.marks[j].event.Script,d.marks[j].event.Part⟩) from rfl,zlp]; rw [zc3 hlt] at he; unfold znU at he; rw [List.filterMap_cons] at he
    cases hv:d.marks[j].void with
    | false=>rw [zat]; rw [if_neg (by rw [hv]; simp)] at he; exact ih (j+1) o (by omega) he (by omega)
    | true =>
      rw [zaF]
      cases hm:(mfind ⟨d.marks[j].event.Script,d.marks[j].event.Part⟩ (countS d R)).isSome with
      | true=>rw [zbH,zat]; rw [if_neg (by rw [hm]; simp)] at he; exact ih (j+1) o (by omega) he (by omega)
      | false=>rw [zcc,zaF,zan rfl,zan (by simp only [zam]; omega),zan rfl]; rw [if_pos ⟨hv,hm⟩] at he; have:=ih (j+1) (o++[⟨d.marks[j].event.Script,i⟩]) (by omega) (by rw [zge]; exact he) (by simp; omega); rw [← zcm] at this; exact this
 exact key d.marks.length 0 out (by omega) (by rw [znr]) (by omega)
theorem ret_desks (r1:((List zab)×Int)×(List zab)) (ds:Desks) (R:Reop) (hd:∀ i d,ds i=some d→d.marks.length≤200) {y:AV×Mem} {ts:List GTask}
  (h:zdm r1 (deskL ds,R) (List.map zfL ts) 100=some y):∀ (n i:Nat) (out:List GTask),i+n=100→out++zr1 ds R i n=ts→out.length≤200*i→zdm r1 (deskL ds,R) (List.map zfL out) i=some y:=by
 intro n
 induction n with
 | zero =>
   intro i out hi he _; have:i=100:=by omega
   subst this; simp only [zr1,zjW] at he; rw [he]; exact h
 | succ n ih =>
   intro i out hi he hlo; have hlt:i < 100:=by omega
   refine zm1 _ _ _ _ ?_; have hget:=zyK ds hlt; rw [zaD (by omega),cPQ,zan (show (i:Int) < 100 by omega),za2]; unfold zr1 at he
   cases hdi:ds i with
   | none=>rw [hdi] at hget he; rw [zqu (by simpa [nDp] using hget)]; refine zqm _ _ _ _ ?_; rw [w6Q,show ((i:Int)+1)=((i+1:Nat):Int) by omega]; exact ih (i+1) out (by omega) (by simpa using he) (by omega)
   | some d=>rw [hdi] at hget he; rw [zyM (D:=ze7) (x:=d) (by simpa [nDp] using hget)]; refine zo9 _ _ _ _ _ ?_; have hc:=zxl d R (by have:=hd i d hdi; omega); unfold zc1 at hc; rw [hc,zh1]; have hml:=hd i d hdi; have htl:=tasks_len i d R d.marks; refine ret_marks r1 ds R i d (by omega) out (by omega) ?_; rw [w6Q,show ((i:Int)+1)=((i+1:Nat):Int) by omega]; exact ih (i+1) _ (by omega) (by rw [zge]; exact he) (by rw [zfj]; omega)
theorem c_ret0:cw zj8 [.agg (zaq S0),.row 1001 9 0 5] [(1001,⟨9,zac,List.map zaa l0,false⟩)]=some (zko (([⟨3,7⟩,⟨4,7⟩],0),l0)):=by
 refine zuf S0 l0 ?_; rw [zqr ok_S0,za4,show ((0:Int) != 0)=false from rfl,zat]; have hc:=c_canon true few0; rw [show cw zbl [.row 1000 9 0 (List.length (List.map zaa l0))] [(1000,⟨9,zac,List.map zaa l0,false⟩)]=some (zdI ((canonS l0,0),l0)) from hc,zkU]; simp only [show ((0:Int) != 0)=false from rfl,zat]; rw [c_walk (okRun ok_S0 few0),zoc]; refine ret_desks _ _ _ (fun i d hd=>?_) (ts:=[⟨3,7⟩,⟨4,7⟩]) ?_ 100 0 [] (by omega) tasks_ok (by simp)
 · have h1:=(desk_ok ok_S0 _ hd).marks; have h2:=(zdl l0).length_eq; have h3:=few0.2.1; omega
 · refine zm1 _ _ _ _ ?_; rw [zaO (by omega),show List.length (List.map zfL [⟨3,7⟩,⟨4,7⟩])=2 from rfl,sort_ok,ziT,compact_ok,zjk,zan (by simp)]; rfl
def m0:zbk:=⟨[⟨2,0,7,1,1,⟨9,7,9⟩⟩],[⟨7,⟨10,7,10⟩,⟨13,7,13⟩,⟨0,0,0⟩,false,false⟩]⟩
def m1:zbk:=⟨[⟨2,0,7,1,1,⟨9,7,9⟩⟩,⟨3,0,7,1,5,⟨21,7,21⟩⟩],[⟨7,⟨10,7,10⟩,⟨13,7,13⟩,⟨20,0,0⟩,false,true⟩]⟩
theorem fold0:foldS S0 l0=m0:=by kernel_rfl
theorem fold1:foldS S0 l1=m1:=by kernel_rfl
theorem c_sane:cw zmG [] []=some (zai true):=by refine zAr ?_; rw [zrz,zfm,zrz,zfm,zrz,zfm,zrz,zfm,zrz,zfm,zan rfl,c_setup29,zk7]; have h0:=c_fold ok_S0 few0; rw [fold0] at h0; refine zlK (zbI (D:=zd4) (x:=((m0,0),l0)) h0 _) ?_; rw [zk7]; refine zlK (zbI (D:=zfN) (x:=(([⟨3,7⟩,⟨4,7⟩],0),l0)) c_ret0 _) ?_; rw [zrz,zfm,zan (by rfl),zan (by decide),zan rfl,zk7]; have h1:=c_fold ok_S0 few1; rw [fold1] at h1; refine zlK (zbI (D:=zd4) (x:=((m1,0),l1)) h1 _) ?_; rw [c_Counting m1 3 0 (by decide),zqP,zvF m1 7 _ (by decide),zao,zvF m1 7 _ (by decide),zao]; rw [show zyJ m1 3 0=[⟨3,0,7,1,5,⟨21,7,21⟩⟩] from by decide,show zmV m1 7 ⟨15,0,0⟩=true from by decide,show zmV m1 7 ⟨21,0,0⟩=false from by decide]; simp only [zj2,zdy]; simp [m0,m1,zaF,zbf]; rfl
set_option maxRecDepth 20000
theorem zyQ {s:zaz} (hs:zds s) {l:List zab} (h:FewEv l):(foldS s l).Given.length≤1000000∧(foldS s l).Suspensions.length≤1000000:=by rw [fold_eq]; have h1:=zq2 s (canonS l) (walkS s (canonS l)).2 100; have h2:=(zdl l).length_eq; have h3:=h.2.1; have h4:=zx6 hs (canonS l) 100; have h5:=(zfA (lt:=zb1) (zce (walkS s (canonS l)).1 (walkS s (canonS l)).2 100)).length_eq; simp only; omega
set_option maxRecDepth 20000
theorem zwP (t:List Int):cw zmF [.sl 1 (List.map zaj t)] []=some (zai true):=by
 refine zsC t ?_; rw [c_Light,zao]; by_cases ht:(t.length:Int)≤600
 case neg=>rw [decide_eq_false ht,zcc,zaF,c_sane,zao]; rfl
 rw [decide_eq_true ht,zbH,zat,c_Roll,zxq]; obtain ⟨s,d1,e1,hs,hd1⟩:=c_Setup ⟨t,0⟩ ⟨by simp,by show t.length≤600; omega⟩; obtain ⟨a,d2,e2,ha,hpa,hd2⟩:=c_Events d1 s 30 hd1 hs (by omega); obtain ⟨b,d3,e3,hb,hpb,hd3⟩:=c_Full d2 s 50 hd2 hs; rw [e1,zrC]; simp only; rw [e2,zlm]; simp only; rw [e3,zlm]; simp only
 have hpl:∀ e∈a++b,e.Pages.length≤1000000:=fun e he=>by
  rcases zb2.1 he with h | h
  · have:=hpa e h; omega
  · have:=hpb e h; omega
 have hlen:(a++b).length≤150:=by rw [zfj]; omega
 have few:FewEv (a++b):=few_of (by omega) hpl; have hok:=hs.ok; rw [cPQ,zan trivial,zjV,zan (by simp only [zam]; omega),cPQ,zjV,← zjT]; generalize a++b=l at *; rw [zAg _ (by omega) hpl,zst,cPQ]
 have hC:(canonS l).length≤150:=by have h1:=(zdl l).length_eq; have h2:(keepS l).length≤(zbM l).length:=zpF _ _; have h3:=zsP l; omega
 have hCp:∀ e∈canonS l,e.Pages.length≤1000000:=fun e he=>hpl e (zma.1 he).1
 have hCC:=zA8 l; generalize canonS l=C at *; have fewC:FewEv C:=few_of (by omega) hCp; have hl:=zyQ hok fewC; have hown:∀ id:Int,FewEv (C.filter (ownB id)):=fun id=>few_of (by have:=List.length_filter_le (ownB id) C; omega) (fun e he=>hCp e (zpm.1 he).1)
 rw [c_fold_d hok fewC,zsw]; simp only [bne_self_eq_false,zat]; have hms:=hok.markers; have hap:∀ mk∈s.Markers,foldS s (C.filter (ownB mk.ID))=⟨(foldS s C).Given.filter (fun g=>g.Marker == mk.ID),(foldS s C).Suspensions.filter (fun y=>y.Marker == mk.ID)⟩:=fun mk hk=>apart_fold hCC (hms.2.1 mk hk).1.1
 have hl2:∀ id:Int,(foldS s (C.filter (ownB id))).Given.length≤1000000∧(foldS s (C.filter (ownB id))).Suspensions.length≤1000000:=fun id=>zyQ hok (hown id)
 generalize hm:foldS s C=m at *; refine zdV s.Markers (fun i _=>zfB (s,d1) C (m,0) i=some (zai true)) ?_ ?_
 · refine zlu _ _ _ _ ?_; dsimp only; rw [zam,zaO (by omega),c_sane,zao]; rfl
 · intro i hi r hr ih; have hmk:=zbi hi; generalize hmke:s.Markers[i]=mk at hmk; have hi16:=hms.1
   have fin:∀ (r14:zbk),r14=foldS s (C.filter (ownB mk.ID))→zdv (s,d1) C (m,0) i mk ((r14,0),C.filter (ownB mk.ID)) (List.map zbd (m.Given.filter (fun g=>g.Marker == mk.ID))) [] 0=some (zai true):=by
    intro r14 hr14
    have lo:∀ (n j:Nat) (out:List zba),j+n=m.Suspensions.length→out.length≤j→out++(m.Suspensions.drop j).filter (fun y=>y.Marker == mk.ID)=m.Suspensions.filter (fun y=>y.Marker == mk.ID)→zdv (s,d1) C (m,0) i mk ((r14,0),C.filter (ownB mk.ID)) (List.map zbd (m.Given.filter (fun g=>g.Marker == mk.ID))) (List.map zag out) j=some (zai true):=by
     intro n
     induction n with
     | zero=>intro j out hj ho he; rw [zgi (by omega),zsd,zjW] at he; subst he; refine zlx _ _ _ _ _ _ _ _ _ ?_; dsimp only; rw [zam,zaO (by omega)]; simp only [bne_self_eq_false,zat]; rw [cPQ,cPQ,zjV,zjV]; have hx:=hl2 mk.ID; rw [← hr14] at hx; have hy:=hap mk hmk; rw [← hr14] at hy; refine zlK (zbI (D:=zad) (x:=dec (r14=⟨m.Given.filter (fun g=>g.Marker == mk.ID),m.Suspensions.filter (fun y=>y.Marker == mk.ID)⟩)) (c_rSame r14 ⟨m.Given.filter (fun g=>g.Marker == mk.ID),m.Suspensions.filter (fun y=>y.Marker == mk.ID)⟩ hx.1 hx.2) _) ?_; rw [zbw hy,zbH,zat,w6Q]; exact ih
     | succ n ih2 =>
       intro j out hj ho he; have hlt:j < m.Suspensions.length:=by omega
       refine zlx _ _ _ _ _ _ _ _ _ ?_; dsimp only; rw [zam,zaD (by omega),cPQ,za2,zdy,zaB hlt,zaX,w6Q,show ((j:Int)+1)=((j+1:Nat):Int) by omega]; rw [zc3 hlt,zjZ] at he
       cases hb:(m.Suspensions[j].Marker == mk.ID) with
       | false=>rw [zat]; rw [hb,iNs] at he; exact ih2 (j+1) out (by omega) (by omega) he
       | true=>rw [hb,if_pos rfl] at he; have h2:=hl.2; rw [zaF,zan rfl,zan (by simp only [zam]; omega),zan rfl,zcm zag]; exact ih2 (j+1) (out++[m.Suspensions[j]]) (by omega) (by simp; omega) (by rw [← he]; simp)
    exact lo m.Suspensions.length 0 [] (by omega) (by simp) (by simp)
   have fin3:∀ (r14:zbk),r14=foldS s (C.filter (ownB mk.ID))→zdu (s,d1) C (m,0) i mk ((r14,0),C.filter (ownB mk.ID)) [] 0=some (zai true):=by
    intro r14 hr14
    have lo:∀ (n j:Nat) (out:List zbv),j+n=m.Given.length→out.length≤j→out++(m.Given.drop j).filter (fun y=>y.Marker == mk.ID)=m.Given.filter (fun y=>y.Marker == mk.ID)→zdu (s,d1) C (m,0) i mk ((r14,0),C.filter (ownB mk.ID)) (List.map zbd out) j=some (zai true):=by
     intro n
     induction n with
     | zero=>intro j out hj ho he; rw [zgi (by omega),zsd,zjW] at he; subst he; refine zlw _ _ _ _ _ _ _ _ ?_; dsimp only; rw [zam,zaO (by omega)]; exact fin r14 hr14
     | succ n ih2 =>
       intro j out hj ho he; have hlt:j < m.Given.length:=by omega
       refine zlw _ _ _ _ _ _ _ _ ?_; dsimp only; rw [zam,zaD (by omega),cPQ,za2,zj2,zaB hlt,zaX,w6Q,show ((j:Int)+1)=((j+1:Nat):Int) by omega]; rw [zc3 hlt,zjZ] at he
       cases hb:(m.Given[j].Marker == mk.ID) with
       | false=>rw [zat]; rw [hb,iNs] at he; exact ih2 (j+1) out (by omega) (by omega) he
       | true=>rw [hb,if_pos rfl] at he; have h1:=hl.1; rw [zaF,zan rfl,zan (by simp only [zam]; omega),zan rfl,zcm zbd]; exact ih2 (j+1) (out++[m.Given[j]]) (by omega) (by simp; omega) (by rw [← he]; simp)
    exact lo m.Given.length 0 [] (by omega) (by simp) (by simp)
   have fin2:zdt (s,d1) C (m,0) i mk [] 0=some (zai true):=by
    have lo:∀ (n j:Nat) (out:List zab),j+n=C.length→out.length≤j→out++(C.drop j).filter (ownB mk.ID)=C.filter (ownB mk.ID)→zdt (s,d1) C (m,0) i mk (List.map zaa out) j=some (zai true):=by
     intro n
     induction n with
     | zero=>intro j out hj ho he; rw [zgi (by omega),zsd,zjW] at he; subst he; refine zlv _ _ _ _ _ _ _ ?_; dsimp only; rw [zam,zaO (by omega)]; refine zlK (zbI (D:=zd4) (x:=((foldS s (C.filter (ownB mk.ID)),0),C.filter (ownB mk.ID))) (c_fold hok (hown mk.ID)) _) ?_; exact fin3 _ rfl
     | succ n ih2 =>
       intro j out hj ho he; have hlt:j < C.length:=by omega
       refine zlv _ _ _ _ _ _ _ ?_; dsimp only; rw [zam,zaD (by omega),cPQ,za2,zbJ,zaB hlt,zaX,w6Q]; rw [zc3 hlt,zjZ] at he
       have add:ownB mk.ID C[j]=true→zeK (s,d1) C (m,0) i mk (List.map zaa out) j C[j]=some (zai true):=fun hb=>by rw [hb,if_pos rfl] at he; refine zo7 _ _ _ _ _ _ _ _ ?_; rw [zan rfl,zan (by simp only [zam]; omega),zan rfl,zcm zaa,w6Q,show ((j:Int)+1)=((j+1:Nat):Int) by omega]; exact ih2 (j+1) (out++[C[j]]) (by omega) (by simp; omega) (by rw [← he]; simp)
       cases b1:(C[j].Kind != 0) with
       | true=>rw [zaF]; exact add (by unfold ownB; rw [b1]; rfl)
       | false =>
       rw [zat]
       cases b2:(C[j].Stamp.Source == mk.ID) with
       | true=>rw [zaF]; exact add (by unfold ownB; rw [b2,Bool.or_true])
       | false =>
       rw [zat,show ((j:Int)+1)=((j+1:Nat):Int) by omega]; rw [show ownB mk.ID C[j]=false by unfold ownB; rw [b1,b2]; rfl,iNs] at he; exact ih2 (j+1) out (by omega) (by omega) he
    exact lo C.length 0 [] (by omega) (by simp) (by simp)
   refine zlu _ _ _ _ ?_; dsimp only; rw [zam,zaD (by omega),cPQ,za2,zes,zaB hi,zaX,hmke]; exact fin2
end Go.Proofs.YtikogkgdkdmljaaGreat
namespace Go.Ab
open Go.RowKit
abbrev Old (w:World):Nat→Prop:=fun g=>g < w.heap.size
def Rd (P:Program) (w:World) (t:TypeId) (n:Nat) {T:Type} (nT:T→List AV):Prop:=
 P.cellsOf t=n∧(∀ v,(nT v).length=n)∧∀ (H:Type) (enc:TypeId×Value→H) (base:Nat) (spare:Nat→Bool) (held:Bool) (fuel:Nat) (cs:List Value) (x:DataW H×List MemPlace),DataW.trod enc P w base spare held fuel t cs=some x→∃ v:T,cs.length=n∧∀ (j:Nat) (c:AV) (y:Value),(nT v)[j]?=some c→cs[j]?=some y→CRel (Old w) w c y∧y.oneCell'=true
theorem rd_int {P:Program} {w:World} {t:TypeId} {k:IntKind} (hc:P.cellsOf t=1) (ht:P.underlying t=some (.int k)):Rd P w t 1 (fun n:Int=>[AV.v (.int k n)]):=by
 refine ⟨hc,fun _=>rfl,fun H enc base spare held fuel cs x h=>?_⟩; obtain ⟨n,rfl,_,_⟩:=DataW.trod_int ht h; refine ⟨n,rfl,fun j c y h1 h2=>?_⟩
 cases j with
 | zero=>simp at h1 h2; subst h1; subst h2; exact ⟨.v _,rfl⟩
 | succ j=>simp at h1
theorem list_of {T:Type} {R:Nat→T→Prop}:∀ n:Nat,(∀ i,i < n→∃ v,R i v)→∃ l:List T,l.length=n∧∀ i v,l[i]?=some v→R i v
 | 0,_=>⟨[],rfl,fun i v h=>by simp at h⟩
 | n+1,h=>by
   obtain ⟨l,h1,h2⟩:=list_of n (fun i hi=>h i (by omega)); obtain ⟨v,hv⟩:=h n (by omega); refine ⟨l++[v],by simp [h1],fun i u hu=>?_⟩; by_cases hi:i < n
   · rw [zng (by omega)] at hu; exact h2 i u hu
   · have hlt:=(zbu.1 hu).1; simp at hlt; have:i=l.length:=by omega
     subst this; rw [List.getElem?_append_right (by omega)] at hu; simp at hu; subst hu; rw [h1]; exact hv
theorem rd_slice {P:Program} {w:World} {t e:TypeId} {n:Nat} {T:Type} {nT:T→List AV} (hc:P.cellsOf t=1) (ht:P.underlying t=some (.slice e)) (hn:0 < n) (he:Rd P w e n nT):Rd P w t 1 (fun l:List T=>[AV.sl n (l.map nT)]):=by
 refine ⟨hc,fun _=>rfl,fun H enc base spare held fuel cs x h=>?_⟩
 have done:∀ (l:List T) (y:Value),CRel (Old w) w (.sl n (l.map nT)) y→y.oneCell'=true→∃ v:List T,[y].length=1∧∀ (j:Nat) (c:AV) (z:Value),[AV.sl n (v.map nT)][j]?=some c→[y][j]?=some z→CRel (Old w) w c z∧z.oneCell'=true:=by
  intro l y hy h1; refine ⟨l,rfl,fun j c z hj hz=>?_⟩
  cases j with
  | zero=>simp at hj hz; subst hj; subst hz; exact ⟨hy,h1⟩
  | succ j=>simp at hj
 rcases DataW.trod_slice ht h with ⟨rfl,_⟩ | ⟨a,len,cap,elems,rest,m,rfl,rfl,_,hb,hl,_,hlen,hel,_,_⟩
 · exact done [] _ (CRel.nil_sl n) rfl
 · have each:∀ i,i < len→∃ v:T,a.block < w.heap.size∧∀ (j:Nat) (c:AV),(nT v)[j]?=some c→∃ y,w.cell? (a.add (i*n+j))=some y∧CRel (Old w) w c y∧y.oneCell'=true:=by
    intro i hi; have h1:=hel i hi; rw [zaB (by omega),he.1] at h1; obtain ⟨cs',h2,h3⟩:=Option.bind_eq_some_iff.1 h1; obtain ⟨v,h4,h5⟩:=he.2.2 H enc base spare held m cs' _ h3; obtain ⟨h6,h7,h8⟩:=World.cells?_some h2; have hblk:=World.cells?_block h2 hn; rw [zh0] at hblk; refine ⟨v,hblk,fun j c hj=>?_⟩; have hjn:j < n:=by have:=(zbu.1 hj).1; rw [he.2.1] at this; exact this
    have h9:=h8 j hjn; rw [Go.Addr.add_add] at h9; have h10:cs'[j]?=some (cs'[j]'(by omega)):=zaB (by omega); refine ⟨cs'[j]'(by omega),by rw [h9,h10],h5 j c _ hj h10⟩
   obtain ⟨l,hll,hlr⟩:=list_of len each; refine done l _ (.sl n _ (some a) len cap (fun i j=>(w.cell? (a.add (i*n+j))).getD undef) (by simp; omega) hl (fun cs hcs=>by obtain ⟨v,_,rfl⟩:=zbA.1 hcs; exact he.2.1 v) ?_ ?_) rfl
   · cases l with
     | nil=>left; rfl
     | cons v l'=>right; refine ⟨a,rfl,(hlr 0 v rfl).1,fun i j cs c h1 h2=>?_⟩; rw [zcW] at h1; obtain ⟨u,hu,rfl⟩:=Option.map_eq_some_iff.1 h1; obtain ⟨y,hy,hr,ho⟩:=(hlr i u hu).2 j c h2; rw [hy]; exact ⟨rfl,ho⟩
   · intro i j cs c h1 h2; rw [zcW] at h1; obtain ⟨u,hu,rfl⟩:=Option.map_eq_some_iff.1 h1; obtain ⟨y,hy,hr,ho⟩:=(hlr i u hu).2 j c h2; rw [hy]; exact hr
theorem arg_cell {P:Program} {w:World} {t:TypeId} {T:Type} {f:T→AV} (hr:Rd P w t 1 (fun v=>[f v])) {H:Type} {enc:TypeId×Value→H} {base:Nat} {spare:Nat→Bool} {held:Bool} {y:Value} (hy:y.cells.toList=[y]) {d:DataW H} {ps:List MemPlace}
  (h:DataW.Trod enc P w base spare held t y d ps) {κ:Kap} {D:Nat→Prop}:∃ v:T,VRel (Old w) κ D w (f v) y:=by
 obtain ⟨fuel,hf⟩:=h; rw [hy] at hf; obtain ⟨v,_,h2⟩:=hr.2.2 H enc base spare held fuel _ _ hf; exact ⟨v,.c (h2 0 _ _ rfl rfl).1⟩
end Go.Ab
end
