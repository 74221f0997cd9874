/- What the log keeps depends on the set of events alone; the reference keeps the same. -/
import Derived.Test.YtikogkgdkdmljaaGreatJ4
import Derived.Test.YtikogkgdkdmljaaGreatAb9
import Derived.OpenShut
import Derived.DataElems
import Derived.ChangeArms
set_option linter.unusedSimpArgs false
set_option linter.unusedVariables false
noncomputable section
namespace Go.Proofs.YtikogkgdkdmljaaGreat
open Go.Ab
set_option maxRecDepth 10000
abbrev idE (e:zab):Int×Int:=(e.Stamp.Source,e.Stamp.Seq)
theorem zeb {κ ν:Type} [DecidableEq κ] (k:κ) (v:ν):∀ l:List (κ×ν),mfind k (mput k v l)=some v
 | []=>by simp [mput,mfind]
 | p :: r=>by
   unfold mput; split
   · simp [mfind]
   · rename_i h; unfold mfind; rw [if_neg h]; exact zeb k v r
theorem zes {κ ν:Type} [DecidableEq κ] {k j:κ} (v:ν) (h:j≠k):∀ l:List (κ×ν),mfind j (mput k v l)=mfind j l
 | []=>by simp [mput,mfind,Ne.symm h]
 | p :: r=>by
   unfold mput; split
   · rename_i hp; simp only [mfind]; rw [if_neg (Ne.symm h),if_neg (fun e=>h (by rw [← e,hp]))]
   · simp only [mfind]; rw [zes v h r]
theorem zpT {κ ν:Type} [DecidableEq κ]:∀ {l:List (κ×ν)} {p:κ×ν},(l.map (·.1)).Nodup→p∈l→mfind p.1 l=some p.2
 | [],_,_,h=>by cases h
 | x :: r,p,hn,h=>by
   obtain ⟨n1,n2⟩:=zfL.1 hn; unfold mfind; rcases za5.1 h with e | h
   · rw [e,if_pos rfl]
   · rw [if_neg (fun e=>n1 (zbG.2 ⟨p,h,e.symm⟩))]; exact zpT n2 h
def Said (l:List zab) (i:Nat) (m:zcN):Prop:=∀ k,match mfind k m with
 | none=>∀ j e,j < i→l[j]?=some e→eventB e=true→idE e≠k
 | some g=>g.disputed=true↔∃ j e,j < i∧l[j]?=some e∧eventB e=true∧idE e=k∧l[g.first.toNat]?≠some e
theorem zyg {l:List zab} {m:zcN} {i:Nat} {e:zab} (h:Said l i m) (he:l[i]?=some e):Said l (i+1) (zdx l m i e):=by
 intro k; have hk:=h k; unfold zdx; by_cases hv:eventB e=true
 case neg =>
  rw [if_neg hv]
  cases hf:mfind k m with
  | none =>
    rw [hf] at hk; intro j f hj hjf hvf; by_cases hji:j=i
    · subst hji; rw [he] at hjf; injection hjf with hjf; subst hjf; exact absurd hvf hv
    · exact hk j f (by omega) hjf hvf
  | some g =>
    rw [hf] at hk; refine hk.trans ⟨fun ⟨j,f,h1,h2⟩=>⟨j,f,by omega,h2⟩,fun ⟨j,f,h1,h2,h3,h4⟩=>⟨j,f,?_,h2,h3,h4⟩⟩; by_cases hji:j=i
    · subst hji; rw [he] at h2; injection h2 with h2; subst h2; exact absurd h3 hv
    · omega
 rw [if_pos hv]; by_cases hke:k=idE e
 · subst hke
   cases hf:mfind (idE e) m with
   | none =>
     simp only; rw [show (e.Stamp.Source,e.Stamp.Seq)=idE e from rfl,zeb]; rw [hf] at hk; simp only [zcj,false_iff]
     rintro ⟨j,f,h1,h2,h3,h4,h5⟩
     by_cases hji:j=i
     · subst hji; exact h5 (by rw [show ((j:Int)).toNat=j from rfl]; exact h2)
     · exact hk j f (by omega) h2 h3 h4
   | some g =>
     simp only; rw [show (e.Stamp.Source,e.Stamp.Seq)=idE e from rfl,zeb]; rw [hf] at hk; simp only; by_cases hs:l[g.first.toNat]?=some e
     · rw [if_pos hs]; refine hk.trans ⟨fun ⟨j,f,h1,h2⟩=>⟨j,f,by omega,h2⟩,fun ⟨j,f,h1,h2,h3,h4,h5⟩=>⟨j,f,?_,h2,h3,h4,h5⟩⟩; by_cases hji:j=i
       · subst hji; rw [he] at h2; exact absurd (hs.trans h2) h5
       · omega
     · rw [if_neg hs]; exact ⟨fun _=>⟨i,e,by omega,he,hv,rfl,hs⟩,fun _=>rfl⟩
 · have other:∀ v:za0,mfind k (mput (e.Stamp.Source,e.Stamp.Seq) v m)=mfind k m:=fun v=>zes v hke m
   have goal:∀ m':zcN,mfind k m'=mfind k m→(match mfind k m' with
     | none=>∀ j e,j < i+1→l[j]?=some e→eventB e=true→idE e≠k
     | some g=>g.disputed=true↔∃ j e,j < i+1∧l[j]?=some e∧eventB e=true∧idE e=k∧l[g.first.toNat]?≠some e):=by
    intro m' hm; rw [hm]
    cases hf:mfind k m with
    | none =>
      rw [hf] at hk; intro j f hj hjf hvf; by_cases hji:j=i
      · subst hji; rw [he] at hjf; injection hjf with hjf; subst hjf; exact fun h=>hke h.symm
      · exact hk j f (by omega) hjf hvf
    | some g =>
      rw [hf] at hk; refine hk.trans ⟨fun ⟨j,f,h1,h2⟩=>⟨j,f,by omega,h2⟩,fun ⟨j,f,h1,h2,h3,h4⟩=>⟨j,f,?_,h2,h3,h4⟩⟩; by_cases hji:j=i
      · subst hji; rw [he] at h2; injection h2 with h2; subst h2; exact absurd h4.1.symm hke
      · omega
   cases mfind (e.Stamp.Source,e.Stamp.Seq) m with
   | none=>exact goal _ (other _)
   | some g=>exact goal _ (other _)
theorem zqj {l:List zab}:∀ {r:List zab} {i:Nat} {m:zcN},Said l i m→l.drop i=r→Said l (i+r.length) (zcG l r i m)
 | [],i,m,h,_=>h
 | e :: r,i,m,h,hd=>by
   unfold zcG
   have he:l[i]?=some e:=by have:=congrArg (·[0]?) hd; simpa using this
   have:=zqj (zyg h he) (r:=r) (by
    have:=congrArg (List.drop 1) hd
    simpa [List.drop_drop] using this)
   rw [zfM,show i+(r.length+1)=i+1+r.length by omega]; exact this
theorem zAZ (l:List zab):Said l l.length (zbN l):=by have:=zqj (l:=l) (r:=l) (i:=0) (m:=[]) (fun k=>by simp [mfind]) rfl; rw [zbI] at this; exact this
def Stays (l:List zab) (e:zab):Prop:=e∈l∧eventB e=true∧∀ f∈l,eventB f=true→idE f=idE e→f=e
theorem zwz {l:List zab} {e:zab}:e∈keepS l↔Stays l e:=by
 have hK:=zmK l; have hS:=zAZ l; constructor
 · intro h; obtain ⟨p,hp,hpe⟩:=zpc.1 (show e∈(zbN l).filterMap (pickG l) from h); obtain ⟨e',h1,h2,h3⟩:=hK.2 p hp; unfold pickG at hpe; split at hpe
   · cases hpe
   rename_i hd; rw [h1] at hpe; injection hpe with hpe; subst hpe; refine ⟨zb5 h1,h3,fun f hf hvf hid=>?_⟩; have:=hS p.1; rw [zpT hK.1 hp] at this; simp only at this; obtain ⟨j,hj,hjf⟩:=zgg.1 hf; by_cases hfe:l[p.2.first.toNat]?=some f
   · rw [h1] at hfe; injection hfe with hfe; exact hfe.symm
   · exact absurd (this.2 ⟨j,f,hj,by rw [zax hj,hjf],hvf,by rw [hid]; exact h2,hfe⟩) hd
 · rintro ⟨h1,h2,h3⟩
   obtain ⟨j,hj,hje⟩:=zgg.1 h1; have hje':l[j]?=some e:=by rw [zax hj,hje]
   have:=hS (idE e)
   cases hf:mfind (idE e) (zbN l) with
   | none=>rw [hf] at this; exact absurd rfl (this j e hj hje' h2)
   | some g =>
     rw [hf] at this; simp only at this; have hp:=zh6 hf; obtain ⟨e',q1,q2,q3⟩:=hK.2 _ hp; have he':e'=e:=h3 e' (zb5 q1) q3 q2; subst he'; show e'∈(zbN l).filterMap (pickG l); refine zpc.2 ⟨_,hp,?_⟩; unfold pickG; rw [if_neg]
     · exact q1
     · intro hd; obtain ⟨i,f,r1,r2,r3,r4,r5⟩:=this.1 hd; have:=h3 f (zb5 r2) r3 r4; subst this; exact r5 q1
theorem zsH (l:List zab):(keepS l).Nodup:=by refine List.Pairwise.imp ?_ (keep_ids l); intro a b h e; exact h (by rw [e])
theorem zxf {l r:List zab} (h:∀ e,Stays l e↔Stays r e):canonS l=canonS r:=by have hp:List.Perm (keepS l) (keepS r):=(zr1 (zsH l) (zsH r)).2 (fun e=>by rw [zwz,zwz]; exact h e); exact zwh ((zdk l).trans hp) (ztQ l)
theorem stays_set {l r:List zab} (h:∀ e,e∈l↔e∈r) (e:zab):Stays l e↔Stays r e:=by unfold Stays; rw [h e]; exact and_congr_right fun _=>and_congr_right fun _=>⟨fun q f hf=>q f ((h f).2 hf),fun q f hf=>q f ((h f).1 hf)⟩
theorem zn3 {l:List zab} {e:zab}:e∈canonS l↔Stays l e:=by rw [(zdk l).mem_iff,zwz]
theorem canon_inj {l:List zab} {a b:zab} (ha:a∈canonS l) (hb:b∈canonS l) (h:idE a=idE b):a=b:=by obtain ⟨_,_,h3⟩:=zn3.1 hb; obtain ⟨h1,h2,_⟩:=zn3.1 ha; exact h3 a h1 h2 h
theorem canon_part {l r:List zab} (h:∀ e∈r,e∈canonS l) (e:zab):Stays r e↔e∈r:=by refine ⟨fun q=>q.1,fun q=>⟨q,(zn3.1 (h e q)).2.1,fun f hf _ hid=>canon_inj (h f hf) (h e q) hid⟩⟩
theorem zAQ (l:List zab):canonS (canonS l)=canonS l:=zxf fun e=>by rw [canon_part (fun _ h=>h),zn3]
def Alike (fb:DMap) (m:zcN):Prop:=∀ k,mfind k fb.1=(mfind k m).map (·.first)∧(mfind k fb.2).getD false=((mfind k m).map (·.disputed)).getD false
theorem step_alike {l:List zab} {i:Nat} {e:zab} {fb:DMap} {m:zcN} (h:Alike fb m):Alike (dstep l i e fb) (zdx l m i e):=by
 unfold dstep zdx; by_cases hv:eventB e=true
 case neg=>rw [if_neg (fun q=>hv (ok_eventB q)),if_neg hv]; exact h
 rw [if_pos (zt9 hv),if_pos hv]; obtain ⟨h1,h2⟩:=h (dKey e)
 cases hf:mfind (dKey e) m with
 | none =>
   rw [hf] at h1; rw [h1]
   try rw [show mfind (e.Stamp.Source,e.Stamp.Seq) m=none from hf]
   simp only [Option.map_none]; intro k; by_cases hk:k=dKey e
   · subst hk; rw [zeb,show mfind (dKey e) (mput (e.Stamp.Source,e.Stamp.Seq) (⟨(i:Int),false⟩:za0) m)=some ⟨i,false⟩ from zeb _ _ _]; refine ⟨rfl,?_⟩; rw [h2,hf]; rfl
   · rw [zes _ hk,show mfind k (mput (e.Stamp.Source,e.Stamp.Seq) (⟨(i:Int),false⟩:za0) m)=mfind k m from zes _ hk _]; exact h k
 | some g =>
   rw [hf] at h1 h2; rw [h1]
   try rw [show mfind (e.Stamp.Source,e.Stamp.Seq) m=some g from hf]
   simp only [zc4]; intro k; by_cases hs:l[g.first.toNat]?=some e
   · rw [if_pos hs,if_pos hs]; by_cases hk:k=dKey e
     · subst hk; rw [show mfind (dKey e) (mput (e.Stamp.Source,e.Stamp.Seq) (⟨g.first,g.disputed⟩:za0) m)=some ⟨g.first,g.disputed⟩ from zeb _ _ _]; exact ⟨h1,h2⟩
     · rw [show mfind k (mput (e.Stamp.Source,e.Stamp.Seq) (⟨g.first,g.disputed⟩:za0) m)=mfind k m from zes _ hk _]; exact h k
   · rw [if_neg hs,if_neg hs]; by_cases hk:k=dKey e
     · subst hk; rw [show mfind (dKey e) (mput (e.Stamp.Source,e.Stamp.Seq) (⟨g.first,true⟩:za0) m)=some ⟨g.first,true⟩ from zeb _ _ _]; exact ⟨h1,by rw [zeb]; rfl⟩
     · rw [show mfind k (mput (e.Stamp.Source,e.Stamp.Seq) (⟨g.first,true⟩:za0) m)=mfind k m from zes _ hk _]; exact ⟨(h k).1,by rw [zes _ hk]; exact (h k).2⟩
theorem zxx {l:List zab}:∀ {r:List zab} {i:Nat} {fb:DMap} {m:zcN},Alike fb m→Alike (dfold l r i fb) (zcG l r i m)
 | [],_,_,_,h=>h
 | e :: r,i,fb,m,h=>by unfold dfold zcG; exact zxx (step_alike h)
theorem ztU {fb:DMap} {m:zcN} (h:Alike fb m):∀ {l:List zab} {i:Nat} {e:zab},e∈ckeep fb l i↔∃ j,l[j]?=some e∧∃ g,mfind (dKey e) m=some g∧g.first=((i+j:Nat):Int)∧g.disputed=false
 | [],i,e=>by simp [ckeep]
 | x :: r,i,e=>by
   have cond:(mfind (dKey x) fb.1=some (i:Int)∧(mfind (dKey x) fb.2).getD false=false)↔∃ g,mfind (dKey x) m=some g∧g.first=(i:Int)∧g.disputed=false:=by
    obtain ⟨h1,h2⟩:=h (dKey x); rw [h1,h2]
    cases hf:mfind (dKey x) m with
    | none=>simp
    | some g=>simp
   have ih:=ztU h (l:=r) (i:=i+1) (e:=e)
   have tail:(∃ j,r[j]?=some e∧∃ g,mfind (dKey e) m=some g∧g.first=((i+1+j:Nat):Int)∧g.disputed=false)↔∃ j,0 < j∧(x :: r)[j]?=some e∧∃ g,mfind (dKey e) m=some g∧g.first=((i+j:Nat):Int)∧g.disputed=false:=by
    constructor
    · rintro ⟨j,h1,g,h2,h3,h4⟩
      exact ⟨j+1,by omega,by simpa using h1,g,h2,by rw [h3]; omega,h4⟩
    · rintro ⟨j,h0,h1,g,h2,h3,h4⟩
      obtain ⟨j,rfl⟩:∃ q,j=q+1:=⟨j - 1,by omega⟩
      exact ⟨j,by simpa using h1,g,h2,by rw [h3]; omega,h4⟩
   unfold ckeep; split
   · rename_i hc; rw [za5,ih,tail]; constructor
     · rintro (rfl | ⟨j,_,h1⟩)
       · exact ⟨0,rfl,by simpa using cond.1 hc⟩
       · exact ⟨j,h1⟩
     · rintro ⟨j,h1,h2⟩
       cases j with
       | zero=>simp only [ze0,zau] at h1; exact .inl h1.symm
       | succ j=>exact .inr ⟨j+1,by omega,h1,h2⟩
   · rename_i hc; rw [ih,tail]; constructor
     · rintro ⟨j,_,h1⟩
       exact ⟨j,h1⟩
     · rintro ⟨j,h1,h2⟩
       cases j with
       | zero=>simp only [ze0,zau] at h1; subst h1; exact absurd (cond.2 (by simpa using h2)) hc
       | succ j=>exact ⟨j+1,by omega,h1,h2⟩
theorem ztT {fb:DMap} {m:zcN} (h:Alike fb m):∀ {l:List zab} {i:Nat},(ckeep fb l i).Pairwise (fun a b=>idE a≠idE b)
 | [],_=>by simp [ckeep]
 | x :: r,i=>by
   unfold ckeep; split
   · rename_i hc; refine zjW.2 ⟨fun y hy e=>?_,ztT h⟩; obtain ⟨j,_,g,h1,h2,_⟩:=(ztU h).1 hy; have:=(h (dKey x)).1; rw [hc.1,show dKey x=dKey y from e,h1] at this; simp only [zc4,zau] at this; omega
   · exact ztT h
theorem ckeep_perm (l:List zab):List.Perm (ckeep (dispF l) l 0) (keepS l):=by
 have hA:Alike (dispF l) (zbN l):=zxx (fun k=>by simp [mfind]); refine (zr1 ?_ (zsH l)).2 (fun e=>?_)
 · refine List.Pairwise.imp ?_ (ztT hA); intro a b h q; exact h (by rw [q])
 · rw [ztU hA]; have hK:=zmK l; constructor
   · rintro ⟨j,h1,g,h2,h3,h4⟩
     show e∈(zbN l).filterMap (pickG l); refine zpc.2 ⟨_,zh6 h2,?_⟩; unfold pickG; simp only [h4,zcj,if_false]; rw [h3,zbI]; exact h1
   · intro h; obtain ⟨p,hp,hpe⟩:=zpc.1 (show e∈(zbN l).filterMap (pickG l) from h); obtain ⟨e',h1,h2,h3⟩:=hK.2 p hp; unfold pickG at hpe; split at hpe
     · cases hpe
     rename_i hd; have q:=hpe; rw [h1] at q; injection q with q; subst q; have:=zud l p hp; refine ⟨p.2.first.toNat,hpe,p.2,?_,by omega,by simpa using hd⟩; rw [show dKey e'=p.1 from h2]; exact zpT hK.1 hp
theorem zzZ (l:List zab) (hl:l.length≤2000) (hp:∀ e∈l,e.Pages.length≤1000000):cw zhC [.sl 9 (List.map zaa l)] []=some (zcH (canonS l,0)):=by obtain ⟨r,h1,h2,h3⟩:=zAH l hl hp; rw [h1,zwh (h2.trans (ckeep_perm l)) (h3.imp fun {a b} h=>by unfold leE at h; simpa using h)]
theorem zzY (l:List zab) (hl:l.length≤2000) (hp:∀ e∈l,e.Pages.length≤1000000):cw zlL [.sl 9 (List.map zaa l)] []=some (zlS (canonS l)):=by refine zwl l ?_; rw [zzZ l hl hp,zl6]; rfl
set_option maxRecDepth 20000
theorem few_of {l:List zab} (h:l.length < 200) (hp:∀ e∈l,e.Pages.length≤1000000):FewEv l:=
 ⟨by omega,by
  have h1:=zxA l; have h2:(keepS l).length≤(zbN l).length:=zr2 _ _
  omega,hp⟩
def zyt (m:zbL) (sc pa:Int):List zbH:=m.Given.filter fun g=>g.Script == sc && g.Part == pa
theorem c_Counting (m:zbL) (sc pa:Int) (hl:m.Given.length≤1000000):cw zj3 [.agg (zb7 m),I sc,I pa] []=some (zg6 (zyt m sc pa)):=by
 refine ztY m sc pa ?_
 have key:∀ (n i:Nat) (out:List zbH),i+n=m.Given.length→out.length≤i→zdV m sc pa (List.map zbr out) i=some (zg6 (out++(m.Given.drop i).filter fun g=>g.Script == sc && g.Part == pa)):=by
  intro n
  induction n with
  | zero=>intro i out hi ho; refine zmV _ _ _ _ _ ?_; rw [zan,zaO (by omega),zam rfl,zjV (by omega)]; simp; rfl
  | succ n ih =>
    intro i out hi ho; have hlt:i < m.Given.length:=by omega
    refine zmV _ _ _ _ _ ?_; rw [zan,zaD (by omega),cPQ,za3,zmx,zax hlt,zaV,w6Q,show ((i:Int)+1)=((i+1:Nat):Int) by omega,zdL hlt,zv3]
    cases h1:(m.Given[i].Script == sc) with
    | false=>rw [zav,zid,iNs]; exact ih (i+1) out (by omega) (by omega)
    | true =>
      cases h2:(m.Given[i].Part == pa) with
      | false=>rw [zaF,zav,zpt,iNs]; exact ih (i+1) out (by omega) (by omega)
      | true=>rw [zaF,zaF,znb,if_pos rfl,zam rfl,zam (by simp only [zan]; omega),zam rfl,zcv zbr]; have:=ih (i+1) (out++[m.Given[i]]) (by omega) (by simp; omega); rw [zgb] at this; exact this
 have:=key m.Given.length 0 [] (by omega) (by simp); rw [znj,zr0] at this; exact this
def suspB (id:Int) (a:zaM) (x:zbd):Bool:=x.Marker == id && !lessS a x.At && (!x.Lifted || lessS a x.Until)
def zmQ (m:zbL) (id:Int) (a:zaM):Bool:=m.Suspensions.any (suspB id a)
theorem zs4 (x:zbd) (id:Int) (a:zaM):cw zcq [.agg (zag x),.fp [I id],.fp [I a.Time,I a.Source,I a.Seq]] []=some (zak (suspB id a x)):=by
 refine zrt x id a ?_; rw [zrm,za1,cmpS_le,zrm,za1,zpG]; unfold suspB
 cases (x.Marker == id) with
 | false=>rfl
 | true =>
   cases lessS a x.At with
   | true=>rfl
   | false=>cases x.Lifted <;> rfl
theorem c_idxS (l:List zbd) (id:Int) (a:zaM) (hl:l.length≤1000000):cw zcE [.sl 12 (List.map zag l),.fn zcq [.fp [I id],.fp [I a.Time,I a.Source,I a.Seq]]] []=some (zbh (match fnd (suspB id a) 0 l with | some (i,_)=>(i:Int) | none=>-1)):=by
 refine zgk l id a ?_; refine zis l (suspB id a) (fun i=>zb1 l id a i) (fun o=>zbh (match o with | some (i,_)=>(i:Int) | none=>-1)) ?_ ?_ ?_
 · exact zcx _ _ _ _ (by simp (disch:=omega) only [zan,zaO]; rfl)
 · intro i hi h; refine zcx _ _ _ _ ?_; simp (disch:=omega) only [zan,zaD,zam,za3,zd5,zax hi,zaV,zs4,zaC]; rw [h,zaF]; rfl
 · intro i hi y h hk; refine zcx _ _ _ _ ?_; simp (disch:=omega) only [zan,zaD,zam,za3,zd5,zax hi,zaV,zs4,zaC]; rw [h,zav,w6Q]; exact hk
theorem zvq (m:zbL) (id:Int) (a:zaM) (hl:m.Suspensions.length≤1000000):cw zgv [.agg (zb7 m),I id,.agg (zbB a)] []=some (zak (zmQ m id a)):=by
 refine ztp m id a ?_; rw [zfV m.Suspensions id a (y:=zak (zmQ m id a)) ?_,zaC]
 · rfl
 · rw [c_idxS _ _ _ hl,za1]; unfold zmQ; rw [← fnd_any]
   cases fnd (suspB id a) 0 m.Suspensions with
   | none=>rfl
   | some q=>simp; rfl
theorem c_rSame (a b:zbL) (h1:a.Given.length≤1000000) (h2:a.Suspensions.length≤1000000):cw zmG [.agg (zb7 a),.agg (zb7 b)] []=some (zak (dec (a=b))):=by
 refine zAe a b ?_; obtain ⟨ag,us⟩:=a; obtain ⟨bg,vs⟩:=b; simp only at h1 h2; simp only [zan]; by_cases hg:ag.length=bg.length
 case neg=>rw [show ((ag.length:Int) != (bg.length:Int))=true by simp only [bne_iff_ne,ne_eq]; omega,zaF,zbo (fun h=>hg (by injection h with h _; rw [h]))]; rfl
 rw [show ((ag.length:Int) != (bg.length:Int))=false by simp [hg],zav]; by_cases hs:us.length=vs.length
 case neg=>rw [show ((us.length:Int) != (vs.length:Int))=true by simp only [bne_iff_ne,ne_eq]; omega,zaF,zbo (fun h=>hs (by injection h with _ h; rw [h]))]; rfl
 rw [show ((us.length:Int) != (vs.length:Int))=false by simp [hs],zav]
 have eqG:∀ x y:zbH,(x.Script == y.Script && (x.Part == y.Part && (x.Marker == y.Marker && (x.Level == y.Level && (x.Value == y.Value && (x.Stamp.Time == y.Stamp.Time && (x.Stamp.Source == y.Stamp.Source && (x.Stamp.Seq == y.Stamp.Seq && true)) && true))))))=decide (x=y):=by
  rintro ⟨a1,a2,a3,a4,a5,a6,a7,a8⟩ ⟨b1,b2,b3,b4,b5,b6,b7,b8⟩
  rw [zuC]; simp [and_assoc]
 have eqS:∀ x y:zbd,(x.Marker == y.Marker && (x.Good.Time == y.Good.Time && (x.Good.Source == y.Good.Source && (x.Good.Seq == y.Good.Seq && true)) && (x.At.Time == y.At.Time && (x.At.Source == y.At.Source && (x.At.Seq == y.At.Seq && true)) && (x.Until.Time == y.Until.Time && (x.Until.Source == y.Until.Source && (x.Until.Seq == y.Until.Seq && true)) && (x.First == y.First && (x.Lifted == y.Lifted && true))))))=decide (x=y):=by
  rintro ⟨a1,⟨a2,a3,a4⟩,⟨a5,a6,a7⟩,⟨a8,a9,a10⟩,a11,a12⟩ ⟨b1,⟨b2,b3,b4⟩,⟨b5,b6,b7⟩,⟨b8,b9,b10⟩,b11,b12⟩
  rw [zuC]; simp [and_assoc]
 have L2:=zlH us.length (fun j hj=>us[j]=vs[j]'(by omega)) (fun i=>zkH ⟨ag,us⟩ ⟨bg,vs⟩ i) zak ?_ ?_ ?_
 · have L1:=znm ag.length (fun j hj=>ag[j]=bg[j]'(by omega)) (fun i=>zkG ⟨ag,us⟩ ⟨bg,vs⟩ i) (fun y=>y=zak false) (zak (dec (∀ (j:Nat) (hj:j < us.length),us[j]=vs[j]'(by omega)))) ?_ ?_ ?_
   · rcases L1 with ⟨q1,q2⟩ | ⟨⟨j,hj,q1⟩,y,rfl,q3⟩
     · have e:dec (∀ (j:Nat) (hj:j < us.length),us[j]=vs[j]'(by omega))=dec ((⟨ag,us⟩:zbL)=⟨bg,vs⟩):=by
        refine zkB ⟨fun h=>?_,fun h=>?_⟩
        · rw [zps hg (fun i h1 _=>q1 i h1),zps hs (fun i h1 _=>h i h1)]
        · injection h with _ h; subst h; intros; rfl
       rw [← e]; exact q2
     · rw [zbo (fun h=>q1 (by injection h with h _; subst h; rfl))]; exact q3
   · intro _; refine znI _ _ _ ?_; simp (disch:=omega) only [zan,zaO]; exact L2
   · intro i hi _ hn; refine ⟨_,rfl,znI _ _ _ ?_⟩; simp (disch:=omega) only [zan,zaD,zam,za3,zmx,zax hi,zax (show i < bg.length by omega),zaV,eqG]; rw [decide_eq_false hn,zb8,zaF]; rfl
   · intro i hi y hn hk; refine znI _ _ _ ?_; simp (disch:=omega) only [zan,zaD,zam,za3,zmx,zax hi,zax (show i < bg.length by omega),zaV,eqG]; rw [decide_eq_true hn,zbJ,zav,w6Q]; exact hk
 · refine znJ _ _ _ ?_; simp (disch:=omega) only [zan,zaO]; rfl
 · intro i hi hn; refine znJ _ _ _ ?_; simp (disch:=omega) only [zan,zaD,zam,za3,zd5,zax hi,zax (show i < vs.length by omega),zaV,eqS]; rw [decide_eq_false hn,zb8,zaF]; rfl
 · intro i hi y hn hk; refine znJ _ _ _ ?_; simp (disch:=omega) only [zan,zaD,zam,za3,zd5,zax hi,zax (show i < vs.length by omega),zaV,eqS]; rw [decide_eq_true hn,zbJ,zav,w6Q]; exact hk
set_option maxRecDepth 100000
def scr0 (i:Int):zaQ:=⟨i,0,i,1,0,[],[-1]⟩
def S0:zaB:=⟨[⟨7,-1,1,9,[0]⟩],[scr0 1,scr0 2,scr0 3,scr0 4,scr0 5,scr0 6],[⟨0,0,[⟨1,5,0,0,0,0⟩]⟩],[⟨[[]],[0]⟩],[⟨1,[4]⟩,⟨6,[4]⟩],⟨0,0,1,1⟩⟩
theorem c_setup29:cw zlx [] []=some (zou S0):=cw_of 30 (by kernel_rfl)
def at29 (t s v:Int):zab:=⟨⟨t,7,t⟩,0,s,0,v,0,[]⟩
theorem zrl (a b c:Int):cw zgS [I a,I b,I c] []=some (zkI (at29 a b c)):=e_law29_at a b c rfl
def l0:List zab:=[at29 9 2 1,at29 10 1 4,at29 11 3 2,at29 12 4 3,at29 13 6 1]
def l1:List zab:=l0++[⟨⟨20,0,0⟩,1,0,0,0,7,[]⟩,at29 21 3 5]
def w0d:Desks×Reop:=walkS S0 (canonS l0)
def znK (i:Nat) (d:zai) (R:Reop) (l:List zbn):List GTask:=l.filterMap fun x=>if x.void=true∧(mfind ⟨x.event.Script,x.event.Part⟩ (countS d R)).isSome=false then some ⟨x.event.Script,(i:Int)⟩ else none
def zrP (ds:Desks) (R:Reop):Nat→Nat→List GTask
 | _,0=>[]
 | i,n+1=>(match ds i with | some d=>znK i d R d.marks | none=>[])++zrP ds R (i+1) n
theorem ok_S0:zdr S0 where
 markers:=by
  refine ⟨by decide,?_,?_⟩
  · intro m hm; simp only [S0,zew] at hm; subst hm; refine ⟨⟨by decide,by decide,by decide,by decide,by simp⟩,fun j hj=>by simp at hj⟩
  · intro j hj; simp [S0] at hj
 scripts:=by
  refine ⟨by decide,?_,?_⟩
  · intro x hx; simp only [S0,za5,zc2,or_false] at hx; rcases hx with rfl | rfl | rfl | rfl | rfl | rfl <;> exact ⟨by decide,by decide,by decide,by decide,by decide,by decide⟩
  · intro j hj; have:j < 5:=by simp [S0] at hj; omega
    match j,this with
    | 0,_ | 1,_ | 2,_ | 3,_ | 4,_=>simp [S0,scr0]
 papers:=by decide
 len:=rfl
 schemes:=by
  intro j p c hp hc
  match j with
  | 0 =>
    simp only [S0,ze0,zau] at hp hc; subst hp hc; refine ⟨⟨by decide,by decide,by decide,?_,by decide⟩,rfl,rfl,?_⟩
    · intro x hx; simp only [zew] at hx; subst hx; exact ⟨by decide,by decide,by decide,.inl (by decide)⟩
    · intro j x ks k hx hks hk
      match j with
      | 0=>simp only [ze0,zau] at hx hks hk; subst hx hks hk; exact ⟨⟨by simp,fun j hj=>by simp at hj⟩,by decide⟩
      | j+1=>simp at hx
  | j+1=>simp [S0] at hp
 script:=by
  intro x hx; refine ⟨0,⟨0,0,[⟨1,5,0,0,0,0⟩]⟩,⟨[[]],[0]⟩,?_,rfl,?_⟩
  · simp only [S0,za5,zc2,or_false] at hx; rcases hx with rfl | rfl | rfl | rfl | rfl | rfl <;> rfl
  · have:x.Answers=[-1]:=by simp only [S0,za5,zc2,or_false] at hx; rcases hx with rfl | rfl | rfl | rfl | rfl | rfl <;> rfl
    rw [this]; refine ⟨rfl,fun j y v hy _ hk=>?_⟩
    match j with
    | 0=>simp only [ze0,zau] at hy; subst hy; exact absurd rfl hk
    | j+1=>simp at hy
 seeds:=by decide
 asc:=by
  intro j hj; have:j < 1:=by simp [S0] at hj; omega
  match j,this with
  | 0,_=>simp [S0]
 seed:=by
  intro x hx; refine ⟨0,⟨0,0,[⟨1,5,0,0,0,0⟩]⟩,?_,?_⟩
  · simp only [S0,za5,zc2,or_false] at hx; rcases hx with rfl | rfl <;> rfl
  · have:x.Marks=[4]:=by simp only [S0,za5,zc2,or_false] at hx; rcases hx with rfl | rfl <;> rfl
    rw [this]; refine ⟨rfl,fun j y v hy hv=>?_⟩
    match j with
    | 0=>simp only [ze0,zau] at hy hv; subst hy hv; decide
    | j+1=>simp at hy
 monitor:=⟨by decide,by decide,by decide,by decide⟩
 short:=by intro c hc ks hk; simp only [S0,zew] at hc; subst hc; simp only [zew] at hk; subst hk; decide
 short2:=by intro m hm; simp only [S0,zew] at hm; subst hm; decide
theorem few0:FewEv l0:=few_of (by decide) (by intro e he; simp only [l0,za5,zc2,or_false] at he; rcases he with rfl | rfl | rfl | rfl | rfl <;> decide)
theorem few1:FewEv l1:=few_of (by decide) (by intro e he; simp only [l1,l0,zci,za5,zc2,or_false] at he; rcases he with (rfl | rfl | rfl | rfl | rfl) | rfl | rfl <;> decide)
theorem tasks_ok:zrP w0d.1 w0d.2 0 100=[⟨3,7⟩,⟨4,7⟩]:=by kernel_rfl
theorem sort_ok:cw zfO [.row 1000 2 0 2,.fn zmE []] [(1000,⟨2,zbD,List.map zfH [⟨3,7⟩,⟨4,7⟩],false⟩)]=some (zdX [⟨3,7⟩,⟨4,7⟩]):=cw_of 30 (by kernel_rfl)
theorem compact_ok:cw zfX [.row 1000 2 0 2] [(1000,⟨2,zbD,List.map zfH [⟨3,7⟩,⟨4,7⟩],false⟩)]=some (zd6 (2,[⟨3,7⟩,⟨4,7⟩])):=cw_of 30 (by kernel_rfl)
theorem tasks_len (i:Nat) (d:zai) (R:Reop) (l:List zbn):(znK i d R l).length≤l.length:=zr2 _ _
theorem ret_marks (r1:((List zab)×Int)×(List zab)) (ds:Desks) (R:Reop) (i:Nat) (d:zai) (hl:d.marks.length≤1000000) {y:AV×Mem} (out:List GTask) (ho:out.length≤1000000)
  (h:zdm r1 (deskL ds,R) (List.map zfH (out++znK i d R d.marks)) (w64 ((i:Int)+1))=some y):zdn r1 (deskL ds,R) i d (countS d R) (List.map zfH out) 0=some y:=by
 have key:∀ (n j:Nat) (o:List GTask),j+n=d.marks.length→o++znK i d R (d.marks.drop j)=out++znK i d R d.marks→o.length≤1000000+j→zdn r1 (deskL ds,R) i d (countS d R) (List.map zfH o) j=some y:=by
  intro n
  induction n with
  | zero=>intro j o hj he hlo; refine zmX _ _ _ _ _ _ _ ?_; rw [zan,zaO (by omega)]; rw [zjV (by omega)] at he; simp only [znK,List.filterMap_nil,zrZ] at he; rw [he]; exact h
  | succ n ih =>
    intro j o hj he hlo; have hlt:j < d.marks.length:=by omega
    refine zmX _ _ _ _ _ _ _ ?_; rw [zan,zaD (by omega),cPQ,za3,zgR,zax hlt,zaV,w6Q,show ((j:Int)+1)=((j+1:Nat):Int) by omega]; rw [show (AV.agg (zcO.enc ⟨d.marks[j].event.Script,d.marks[j].event.Part⟩))=.agg (zbe ⟨d.marks[j].event.Script,d.marks[j].event.Part⟩) from rfl,zln]; rw [zdL hlt] at he; unfold znK at he; rw [List.filterMap_cons] at he
    cases hv:d.marks[j].void with
    | false=>rw [zav]; rw [if_neg (by rw [hv]; simp)] at he; exact ih (j+1) o (by omega) he (by omega)
    | true =>
      rw [zaF]
      cases hm:(mfind ⟨d.marks[j].event.Script,d.marks[j].event.Part⟩ (countS d R)).isSome with
      | true=>rw [zbJ,zav]; rw [if_neg (by rw [hm]; simp)] at he; exact ih (j+1) o (by omega) he (by omega)
      | false=>rw [zb8,zaF,zam rfl,zam (by simp only [zan]; omega),zam rfl]; rw [if_pos ⟨hv,hm⟩] at he; have:=ih (j+1) (o++[⟨d.marks[j].event.Script,i⟩]) (by omega) (by rw [zgb]; exact he) (by simp; omega); rw [← zcv] at this; exact this
 exact key d.marks.length 0 out (by omega) (by rw [znj]) (by omega)
theorem ret_desks (r1:((List zab)×Int)×(List zab)) (ds:Desks) (R:Reop) (hd:∀ i d,ds i=some d→d.marks.length≤200) {y:AV×Mem} {ts:List GTask}
  (h:zdm r1 (deskL ds,R) (List.map zfH ts) 100=some y):∀ (n i:Nat) (out:List GTask),i+n=100→out++zrP ds R i n=ts→out.length≤200*i→zdm r1 (deskL ds,R) (List.map zfH out) i=some y:=by
 intro n
 induction n with
 | zero =>
   intro i out hi he _; have:i=100:=by omega
   subst this; simp only [zrP,zrZ] at he; rw [he]; exact h
 | succ n ih =>
   intro i out hi he hlo; have hlt:i < 100:=by omega
   refine zmW _ _ _ _ ?_; have hget:=zyu ds hlt; rw [zaD (by omega),cPQ,zam (show (i:Int) < 100 by omega),za3]; unfold zrP at he
   cases hdi:ds i with
   | none=>rw [hdi] at hget he; rw [zqi (by simpa [nDp] using hget)]; refine zqa _ _ _ _ ?_; rw [w6Q,show ((i:Int)+1)=((i+1:Nat):Int) by omega]; exact ih (i+1) out (by omega) (by simpa using he) (by omega)
   | some d=>rw [hdi] at hget he; rw [zyw (D:=ze4) (x:=d) (by simpa [nDp] using hget)]; refine zo0 _ _ _ _ _ ?_; have hc:=zw7 d R (by have:=hd i d hdi; omega); unfold zc1 at hc; rw [hc,zh1]; have hml:=hd i d hdi; have htl:=tasks_len i d R d.marks; refine ret_marks r1 ds R i d (by omega) out (by omega) ?_; rw [w6Q,show ((i:Int)+1)=((i+1:Nat):Int) by omega]; exact ih (i+1) _ (by omega) (by rw [zgb]; exact he) (by rw [zgd]; omega)
theorem c_ret0:cw zj4 [.agg (zaq S0),.row 1001 9 0 5] [(1001,⟨9,zac,List.map zaa l0,false⟩)]=some (zkj (([⟨3,7⟩,⟨4,7⟩],0),l0)):=by
 refine ztZ S0 l0 ?_; rw [zqf ok_S0,za1,show ((0:Int) != 0)=false from rfl,zav]; have hc:=c_canon true few0; rw [show cw zbi [.row 1000 9 0 (List.length (List.map zaa l0))] [(1000,⟨9,zac,List.map zaa l0,false⟩)]=some (zdD ((canonS l0,0),l0)) from hc,zkR]; simp only [show ((0:Int) != 0)=false from rfl,zav]; rw [c_walk (okRun ok_S0 few0),zn1]; refine ret_desks _ _ _ (fun i d hd=>?_) (ts:=[⟨3,7⟩,⟨4,7⟩]) ?_ 100 0 [] (by omega) tasks_ok (by simp)
 · have h1:=(desk_ok ok_S0 _ hd).marks; have h2:=(zdk l0).length_eq; have h3:=few0.2.1; omega
 · refine zmW _ _ _ _ ?_; rw [zaO (by omega),show List.length (List.map zfH [⟨3,7⟩,⟨4,7⟩])=2 from rfl,sort_ok,ziU,compact_ok,zjk,zam (by simp)]; rfl
def m0:zbL:=⟨[⟨2,0,7,1,1,⟨9,7,9⟩⟩],[⟨7,⟨10,7,10⟩,⟨13,7,13⟩,⟨0,0,0⟩,false,false⟩]⟩
def m1:zbL:=⟨[⟨2,0,7,1,1,⟨9,7,9⟩⟩,⟨3,0,7,1,5,⟨21,7,21⟩⟩],[⟨7,⟨10,7,10⟩,⟨13,7,13⟩,⟨20,0,0⟩,false,true⟩]⟩
theorem fold0:foldS S0 l0=m0:=by kernel_rfl
theorem fold1:foldS S0 l1=m1:=by kernel_rfl
theorem c_sane:cw zmC [] []=some (zak true):=by refine zz9 ?_; rw [zrl,zfj,zrl,zfj,zrl,zfj,zrl,zfj,zrl,zfj,zam rfl,c_setup29,zk4]; have h0:=c_fold ok_S0 few0; rw [fold0] at h0; refine Eq.trans (zbE (D:=zc8) (x:=((m0,0),l0)) h0 _) ?_; rw [zk4]; refine Eq.trans (zbE (D:=zfJ) (x:=(([⟨3,7⟩,⟨4,7⟩],0),l0)) c_ret0 _) ?_; rw [zrl,zfj,zam (by rfl),zam (by decide),zam rfl,zk4]; have h1:=c_fold ok_S0 few1; rw [fold1] at h1; refine Eq.trans (zbE (D:=zc8) (x:=((m1,0),l1)) h1 _) ?_; rw [c_Counting m1 3 0 (by decide),zqD,zvq m1 7 _ (by decide),zaC,zvq m1 7 _ (by decide),zaC]; rw [show zyt m1 3 0=[⟨3,0,7,1,5,⟨21,7,21⟩⟩] from by decide,show zmQ m1 7 ⟨15,0,0⟩=true from by decide,show zmQ m1 7 ⟨21,0,0⟩=false from by decide]; simp only [zmx,zd5]; simp [m0,m1,zaF,zbf]; rfl
set_option maxRecDepth 20000
theorem swap_mem {α:Type} {l:List α} {i k:Nat} (hi:i < l.length) (hk:k < l.length) (e:α):e∈((l.set i l[k]).set k l[i])↔e∈l:=by
 constructor
 · intro h; obtain ⟨j,hj,rfl⟩:=zgg.1 h; rw [zlG]; split
   · exact zbc hi
   · rw [zlG]; split
     · exact zbc hk
     · exact zbc _
 · intro h; obtain ⟨j,hj,rfl⟩:=zgg.1 h; by_cases h1:j=i
   · subst h1; exact zgg.2 ⟨k,by simpa using hk,by rw [zlG,if_pos rfl]⟩
   · by_cases h2:j=k
     · subst h2; exact zgg.2 ⟨i,by simpa using hi,by rw [zlG,if_neg h1,zlG,if_pos rfl]⟩
     · exact zgg.2 ⟨j,by simpa using hj,by rw [zlG,if_neg (Ne.symm h2),zlG,if_neg (Ne.symm h1)]⟩
theorem c_Shuffled (d:zae) (l:List zab) (hd:DOk d) (hl:l.length≤1000):∃ (r:List zab) (d':zae),cw zik [.loc 1000 2 0 0,.row 1001 9 0 (List.map zaa l).length] [(1000,⟨2,zaf,[zap d],true⟩),(1001,⟨9,zac,List.map zaa l,false⟩)]=some (zf2 (r,d',l))∧(∀ e,e∈r↔e∈l)∧r.length≤2*l.length∧DOk d':=by
 let Q:AV×Mem→Prop:=fun y=>∃ (r:List zab) (d':zae),y=zf2 (r,d',l)∧(∀ e,e∈r↔e∈l)∧r.length≤2*l.length∧DOk d'
 have loop2:∀ (n i:Nat) (xs:List zab) (d:zae) (q:Nat),i+n=l.length→(∀ e,e∈xs↔e∈l)→xs.length≤l.length+i→DOk d→q=xs.length→Sat Q (zel l (List.map zaa xs) d q i):=by
  intro n
  induction n with
  | zero=>intro i xs d q hi hm hx hd hq; refine sat_of (fun y=>zlu _ _ _ _ _) ?_; rw [zan,zaO (by omega),zam (by simp; omega)]; exact zwH ⟨xs,d,rfl,hm,by omega,hd⟩
  | succ n ih =>
    intro i xs d q hi hm hx hd hq; have hlt:i < l.length:=by omega
    refine sat_of (fun y=>zlu _ _ _ _ _) ?_; obtain ⟨v,d1,e1,hd1⟩:=zpB d 4 hd (by omega); rw [zan,zaD (by omega),e1,zbS]
    cases v with
    | true=>rw [zaF,cPQ,cPQ,zbI,za3,zbq,zax hlt,zaV,zam (by simp; omega),zam (by simp only [zan]; omega),zam rfl]; refine sat_of (fun y=>zoZ _ _ _ _ _ _) ?_; rw [w6Q,show ((i:Int)+1)=((i+1:Nat):Int) by omega,zcv zaa]; refine ih (i+1) (xs++[l[i]]) d1 _ (by omega) (fun e=>?_) (by simp; omega) hd1 (by simp); rw [zci,zew,hm e]; exact ⟨fun h=>h.elim id (fun h=>h▸zbc hlt),.inl⟩
    | false=>rw [zav]; refine sat_of (fun y=>zog _ _ _ _ _) ?_; rw [w6Q,show ((i:Int)+1)=((i+1:Nat):Int) by omega]; exact ih (i+1) xs d1 q (by omega) hm (by omega) hd1 hq
 have loop1:∀ (n:Nat) (i:Int) (xs:List zab) (d:zae),i+1=n→i < l.length→xs.length=l.length→(∀ e,e∈xs↔e∈l)→DOk d→Sat Q (zfx l (List.map zaa xs) d i):=by
  intro n
  induction n with
  | zero=>intro i xs d hi hil hx hm hd; refine sat_of (fun y=>zlt _ _ _ _) ?_; rw [zaO (by omega),zgh]; exact loop2 l.length 0 xs d _ (by omega) hm (by omega) hd (by simp [hx])
  | succ n ih =>
    intro i xs d hi hil hx hm hd; refine sat_of (fun y=>zlt _ _ _ _) ?_; by_cases h0:0 < i
    case neg=>rw [zaO (by omega),zgh]; exact loop2 l.length 0 xs d _ (by omega) hm (by omega) hd (by simp [hx])
    obtain ⟨r,d1,e1,hr0,hr1,hd1⟩:=zb6 d (i+1) hd (by omega); have hrk:r.toNat < xs.length:=by omega
    have hik:i.toNat < xs.length:=by omega
    have hc:∀ z:Int,z < (l.length:Int)→z < (((List.take (List.map zaa l).length (List.map zaa l)).length:Nat):Int):=fun z hz=>by rw [zgh,zan]; exact hz
    rw [zaD h0,w6Q,e1,zaT,zam hr0,zam (hc _ (by omega)),zbI,zbq,zax hrk,zaV,cPQ,zam (hc _ (by omega)),zbI,zbq,zax hik,zaV,cPQ,zam (hc _ (by omega)),zbq,zax hik,zaV,zam hr0,zam (hc _ (by omega)),zho,zbq,zax (show r.toNat < (xs.set i.toNat xs[r.toNat]).length by simpa using hrk),zaV,zho,w6Q]; exact ih (i - 1) _ d1 (by omega) (by omega) (by simpa using hx) (fun e=>(swap_mem hik hrk e).trans (hm e)) hd1
 obtain ⟨y,e1,r,d',rfl,h⟩:=loop1 l.length (l.length - 1) l d (by omega) (by omega) rfl (fun _=>Iff.rfl) hd; refine ⟨r,d',zsr _ _ ?_,h⟩; rw [cPQ,zam (by rw [zgh]; simp only [zan]; omega),zam rfl,zgh,zan,w6Q]; exact e1
theorem fold_lens {s:zaB} (hs:zdr s) {l:List zab} (h:FewEv l):(foldS s l).Given.length≤1000000∧(foldS s l).Suspensions.length≤1000000:=by rw [zry]; have h1:=zqP s (canonS l) (walkS s (canonS l)).2 100; have h2:=(zdk l).length_eq; have h3:=h.2.1; have h4:=zxR hs (canonS l) 100; have h5:=(zkE (lt:=zck) (zcg (walkS s (canonS l)).1 (walkS s (canonS l)).2 100)).length_eq; simp only; omega
theorem zwA (t:List Int):cw zmB [.sl 1 (List.map zah t)] []=some (zak true):=by
 refine zsq t ?_; rw [c_Light,zaC]; by_cases ht:(t.length:Int)≤600
 case neg=>rw [decide_eq_false ht,zb8,zaF,c_sane,zaC]; rfl
 rw [decide_eq_true ht,zbJ,zav,c_Roll,zxc]; obtain ⟨s,d1,e1,hs,hd1⟩:=c_Setup ⟨t,0⟩ ⟨by simp,by show t.length≤600; omega⟩; obtain ⟨a,d2,e2,ha,hpa,hd2⟩:=c_Events d1 s 30 hd1 hs (by omega); obtain ⟨b,d3,e3,hb,hpb,hd3⟩:=c_Full d2 s 50 hd2 hs; rw [e1,zro]; simp only; rw [e2,zlk]; simp only; rw [e3,zlk]; simp only
 have hpl:∀ e∈a++b,e.Pages.length≤1000000:=fun e he=>by
  rcases zci.1 he with h | h
  · have:=hpa e h; omega
  · have:=hpb e h; omega
 have hlen:(a++b).length≤150:=by rw [zgd]; omega
 have few:FewEv (a++b):=few_of (by omega) hpl; have hok:=hs.ok; obtain ⟨r,d4,e4,hr,hrl,hd4⟩:=c_Shuffled d3 (a++b) hd3 (by omega); have cr:canonS r=canonS (a++b):=zxf (stays_set hr); have fewR:FewEv r:=⟨by omega,by rw [← (zdk r).length_eq,cr,(zdk _).length_eq]; exact few.2.1,fun e he=>hpl e ((hr e).1 he)⟩
 have fewC:FewEv (canonS (a++b)):=by have h1:=(zdk (a++b)).length_eq; have h2:=few.2.1; exact few_of (by omega) (fun e he=>hpl e (zn3.1 he).1)
 rw [cPQ,zam trivial,zgh,zam (by simp only [zan]; omega),zam trivial,← zjT]; have f1:=c_fold hok few; refine Eq.trans (zbE (D:=zc8) (x:=((foldS s (a++b),0),a++b)) f1 _) ?_; simp only; refine Eq.trans (zbE (D:=zeV) (x:=(r,d4,a++b)) e4 _) ?_; simp only; refine Eq.trans (zbE (D:=zc8) (x:=((foldS s r,0),r)) (c_fold hok fewR) _) ?_; simp only; rw [cPQ,cPQ,zgh,zzY _ (by omega) hpl,zsi]; rw [c_fold_d hok fewC,zsl]; simp only; have g1:foldS s r=foldS s (a++b):=by rw [zry,zry,cr]
 have g2:foldS s (canonS (a++b))=foldS s (a++b):=by rw [zry,zry,zAQ]
 have hl:=fold_lens hok few; rw [g1,g2,c_rSame _ _ hl.1 hl.2,zaC,zbv rfl,zaF,c_sane,zaC]; simp only [beq_self_eq_true,zaF,zaC]; rfl
end Go.Proofs.YtikogkgdkdmljaaGreat
namespace Go.Ab
open Go.RowKit
abbrev Old (w:World):Nat→Prop:=fun g=>g < w.heap.size
def Rd (P:Program) (w:World) (t:TypeId) (n:Nat) {T:Type} (nT:T→List AV):Prop:=
 P.cellsOf t=n∧(∀ v,(nT v).length=n)∧∀ (H:Type) (enc:TypeId×Value→H) (base:Nat) (spare:Nat→Bool) (held:Bool) (fuel:Nat) (cs:List Value) (x:DataW H×List MemPlace),DataW.trod enc P w base spare held fuel t cs=some x→∃ v:T,cs.length=n∧∀ (j:Nat) (c:AV) (y:Value),(nT v)[j]?=some c→cs[j]?=some y→CRel (Old w) w c y∧y.oneCell'=true
theorem rd_int {P:Program} {w:World} {t:TypeId} {k:IntKind} (hc:P.cellsOf t=1) (ht:P.underlying t=some (.int k)):Rd P w t 1 (fun n:Int=>[AV.v (.int k n)]):=by
 refine ⟨hc,fun _=>rfl,fun H enc base spare held fuel cs x h=>?_⟩; obtain ⟨n,rfl,_,_⟩:=DataW.trod_int ht h; refine ⟨n,rfl,fun j c y h1 h2=>?_⟩
 cases j with
 | zero=>simp at h1 h2; subst h1; subst h2; exact ⟨.v _,rfl⟩
 | succ j=>simp at h1
theorem list_of {T:Type} {R:Nat→T→Prop}:∀ n:Nat,(∀ i,i < n→∃ v,R i v)→∃ l:List T,l.length=n∧∀ i v,l[i]?=some v→R i v
 | 0,_=>⟨[],rfl,fun i v h=>by simp at h⟩
 | n+1,h=>by
   obtain ⟨l,h1,h2⟩:=list_of n (fun i hi=>h i (by omega)); obtain ⟨v,hv⟩:=h n (by omega); refine ⟨l++[v],by simp [h1],fun i u hu=>?_⟩; by_cases hi:i < n
   · rw [zrY (by omega)] at hu; exact h2 i u hu
   · have hlt:=(zbu.1 hu).1; simp at hlt; have:i=l.length:=by omega
     subst this; rw [List.getElem?_append_right (by omega)] at hu; simp at hu; subst hu; rw [h1]; exact hv
theorem rd_slice {P:Program} {w:World} {t e:TypeId} {n:Nat} {T:Type} {nT:T→List AV} (hc:P.cellsOf t=1) (ht:P.underlying t=some (.slice e)) (hn:0 < n) (he:Rd P w e n nT):Rd P w t 1 (fun l:List T=>[AV.sl n (l.map nT)]):=by
 refine ⟨hc,fun _=>rfl,fun H enc base spare held fuel cs x h=>?_⟩
 have done:∀ (l:List T) (y:Value),CRel (Old w) w (.sl n (l.map nT)) y→y.oneCell'=true→∃ v:List T,[y].length=1∧∀ (j:Nat) (c:AV) (z:Value),[AV.sl n (v.map nT)][j]?=some c→[y][j]?=some z→CRel (Old w) w c z∧z.oneCell'=true:=by
  intro l y hy h1; refine ⟨l,rfl,fun j c z hj hz=>?_⟩
  cases j with
  | zero=>simp at hj hz; subst hj; subst hz; exact ⟨hy,h1⟩
  | succ j=>simp at hj
 rcases DataW.trod_slice ht h with ⟨rfl,_⟩ | ⟨a,len,cap,elems,rest,m,rfl,rfl,_,hb,hl,_,hlen,hel,_,_⟩
 · exact done [] _ (CRel.nil_sl n) rfl
 · have each:∀ i,i < len→∃ v:T,a.block < w.heap.size∧∀ (j:Nat) (c:AV),(nT v)[j]?=some c→∃ y,w.cell? (a.add (i*n+j))=some y∧CRel (Old w) w c y∧y.oneCell'=true:=by
    intro i hi; have h1:=hel i hi; rw [zax (by omega),he.1] at h1; obtain ⟨cs',h2,h3⟩:=Option.bind_eq_some_iff.1 h1; obtain ⟨v,h4,h5⟩:=he.2.2 H enc base spare held m cs' _ h3; obtain ⟨h6,h7,h8⟩:=World.cells?_some h2; have hblk:=World.cells?_block h2 hn; rw [zh0] at hblk; refine ⟨v,hblk,fun j c hj=>?_⟩; have hjn:j < n:=by have:=(zbu.1 hj).1; rw [he.2.1] at this; exact this
    have h9:=h8 j hjn; rw [Go.Addr.add_add] at h9; have h10:cs'[j]?=some (cs'[j]'(by omega)):=zax (by omega); refine ⟨cs'[j]'(by omega),by rw [h9,h10],h5 j c _ hj h10⟩
   obtain ⟨l,hll,hlr⟩:=list_of len each; refine done l _ (.sl n _ (some a) len cap (fun i j=>(w.cell? (a.add (i*n+j))).getD undef) (by simp; omega) hl (fun cs hcs=>by obtain ⟨v,_,rfl⟩:=zbG.1 hcs; exact he.2.1 v) ?_ ?_) rfl
   · cases l with
     | nil=>left; rfl
     | cons v l'=>right; refine ⟨a,rfl,(hlr 0 v rfl).1,fun i j cs c h1 h2=>?_⟩; rw [zcW] at h1; obtain ⟨u,hu,rfl⟩:=Option.map_eq_some_iff.1 h1; obtain ⟨y,hy,hr,ho⟩:=(hlr i u hu).2 j c h2; rw [hy]; exact ⟨rfl,ho⟩
   · intro i j cs c h1 h2; rw [zcW] at h1; obtain ⟨u,hu,rfl⟩:=Option.map_eq_some_iff.1 h1; obtain ⟨y,hy,hr,ho⟩:=(hlr i u hu).2 j c h2; rw [hy]; exact hr
theorem arg_cell {P:Program} {w:World} {t:TypeId} {T:Type} {f:T→AV} (hr:Rd P w t 1 (fun v=>[f v])) {H:Type} {enc:TypeId×Value→H} {base:Nat} {spare:Nat→Bool} {held:Bool} {y:Value} (hy:y.cells.toList=[y]) {d:DataW H} {ps:List MemPlace}
  (h:DataW.Trod enc P w base spare held t y d ps) {κ:Kap} {D:Nat→Prop}:∃ v:T,VRel (Old w) κ D w (f v) y:=by
 obtain ⟨fuel,hf⟩:=h; rw [hy] at hf; obtain ⟨v,_,h2⟩:=hr.2.2 H enc base spare held fuel _ _ hf; exact ⟨v,.c (h2 0 _ _ rfl rfl).1⟩
end Go.Ab
end
