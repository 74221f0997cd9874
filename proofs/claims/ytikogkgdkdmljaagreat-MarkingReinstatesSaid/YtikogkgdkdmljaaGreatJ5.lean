/- What the log keeps depends on the set of events alone; the reference keeps the same. -/
import Derived.Test.YtikogkgdkdmljaaGreatJ4
set_option linter.unusedSimpArgs false
set_option linter.unusedVariables false
noncomputable section
namespace Go.Proofs.YtikogkgdkdmljaaGreat
open Go.Ab
set_option maxRecDepth 10000
abbrev idE (e:zab):Int×Int:=(e.Stamp.Source,e.Stamp.Seq)
theorem zjq {κ ν:Type} [DecidableEq κ] (k:κ) (v:ν):∀ l:List (κ×ν),mfind k (mput k v l)=some v
 | []=>by simp [mput,mfind]
 | p :: r=>by
   unfold mput; split
   · simp [mfind]
   · rename_i h; unfold mfind; rw [if_neg h]; exact zjq k v r
theorem zpr {κ ν:Type} [DecidableEq κ] {k j:κ} (v:ν) (h:j≠k):∀ l:List (κ×ν),mfind j (mput k v l)=mfind j l
 | []=>by simp [mput,mfind,Ne.symm h]
 | p :: r=>by
   unfold mput; split
   · rename_i hp; simp only [mfind]; rw [if_neg (Ne.symm h),if_neg (fun e=>h (by rw [← e,hp]))]
   · simp only [mfind]; rw [zpr v h r]
theorem ztU {κ ν:Type} [DecidableEq κ]:∀ {l:List (κ×ν)} {p:κ×ν},(l.map (·.1)).Nodup→p∈l→mfind p.1 l=some p.2
 | [],_,_,h=>by cases h
 | x :: r,p,hn,h=>by
   obtain ⟨n1,n2⟩:=zfD.1 hn; unfold mfind; rcases za1.1 h with e | h
   · rw [e,if_pos rfl]
   · rw [if_neg (fun e=>n1 (zbC.2 ⟨p,h,e.symm⟩))]; exact ztU n2 h
def Said (l:List zab) (i:Nat) (m:zdx):Prop:=∀ k,match mfind k m with
 | none=>∀ j e,j < i→l[j]?=some e→eventB e=true→idE e≠k
 | some g=>g.disputed=true↔∃ j e,j < i∧l[j]?=some e∧eventB e=true∧idE e=k∧l[g.first.toNat]?≠some e
theorem zxY {l:List zab} {m:zdx} {i:Nat} {e:zab} (h:Said l i m) (he:l[i]?=some e):Said l (i+1) (zd2 l m i e):=by
 intro k; have hk:=h k; unfold zd2; by_cases hv:eventB e=true
 case neg =>
  rw [if_neg hv]
  cases hf:mfind k m with
  | none =>
    rw [hf] at hk; intro j f hj hjf hvf; by_cases hji:j=i
    · subst hji; rw [he] at hjf; injection hjf with hjf; subst hjf; exact absurd hvf hv
    · exact hk j f (by omega) hjf hvf
  | some g =>
    rw [hf] at hk; refine hk.trans ⟨fun ⟨j,f,h1,h2⟩=>⟨j,f,by omega,h2⟩,fun ⟨j,f,h1,h2,h3,h4⟩=>⟨j,f,?_,h2,h3,h4⟩⟩; by_cases hji:j=i
    · subst hji; rw [he] at h2; injection h2 with h2; subst h2; exact absurd h3 hv
    · omega
 rw [if_pos hv]; by_cases hke:k=idE e
 · subst hke
   cases hf:mfind (idE e) m with
   | none =>
     simp only; rw [show (e.Stamp.Source,e.Stamp.Seq)=idE e from rfl,zjq]; rw [hf] at hk; simp only [zcn,false_iff]
     rintro ⟨j,f,h1,h2,h3,h4,h5⟩
     by_cases hji:j=i
     · subst hji; exact h5 (by rw [show ((j:Int)).toNat=j from rfl]; exact h2)
     · exact hk j f (by omega) h2 h3 h4
   | some g =>
     simp only; rw [show (e.Stamp.Source,e.Stamp.Seq)=idE e from rfl,zjq]; rw [hf] at hk; simp only; by_cases hs:l[g.first.toNat]?=some e
     · rw [if_pos hs]; refine hk.trans ⟨fun ⟨j,f,h1,h2⟩=>⟨j,f,by omega,h2⟩,fun ⟨j,f,h1,h2,h3,h4,h5⟩=>⟨j,f,?_,h2,h3,h4,h5⟩⟩; by_cases hji:j=i
       · subst hji; rw [he] at h2; exact absurd (hs.trans h2) h5
       · omega
     · rw [if_neg hs]; exact ⟨fun _=>⟨i,e,by omega,he,hv,rfl,hs⟩,fun _=>rfl⟩
 · have other:∀ v:zba,mfind k (mput (e.Stamp.Source,e.Stamp.Seq) v m)=mfind k m:=fun v=>zpr v hke m
   have goal:∀ m':zdx,mfind k m'=mfind k m→(match mfind k m' with
     | none=>∀ j e,j < i+1→l[j]?=some e→eventB e=true→idE e≠k
     | some g=>g.disputed=true↔∃ j e,j < i+1∧l[j]?=some e∧eventB e=true∧idE e=k∧l[g.first.toNat]?≠some e):=by
    intro m' hm; rw [hm]
    cases hf:mfind k m with
    | none =>
      rw [hf] at hk; intro j f hj hjf hvf; by_cases hji:j=i
      · subst hji; rw [he] at hjf; injection hjf with hjf; subst hjf; exact fun h=>hke h.symm
      · exact hk j f (by omega) hjf hvf
    | some g =>
      rw [hf] at hk; refine hk.trans ⟨fun ⟨j,f,h1,h2⟩=>⟨j,f,by omega,h2⟩,fun ⟨j,f,h1,h2,h3,h4⟩=>⟨j,f,?_,h2,h3,h4⟩⟩; by_cases hji:j=i
      · subst hji; rw [he] at h2; injection h2 with h2; subst h2; exact absurd h4.1.symm hke
      · omega
   cases mfind (e.Stamp.Source,e.Stamp.Seq) m with
   | none=>exact goal _ (other _)
   | some g=>exact goal _ (other _)
theorem zpT {l:List zab}:∀ {r:List zab} {i:Nat} {m:zdx},Said l i m→l.drop i=r→Said l (i+r.length) (zcU l r i m)
 | [],i,m,h,_=>h
 | e :: r,i,m,h,hd=>by
   unfold zcU
   have he:l[i]?=some e:=by have:=congrArg (·[0]?) hd; simpa using this
   have:=zpT (zxY h he) (r:=r) (by
    have:=congrArg (List.drop 1) hd
    simpa [List.drop_drop] using this)
   rw [zf5,show i+(r.length+1)=i+1+r.length by omega]; exact this
theorem zAx (l:List zab):Said l l.length (zbT l):=by have:=zpT (l:=l) (r:=l) (i:=0) (m:=[]) (fun k=>by simp [mfind]) rfl; rw [zb5] at this; exact this
def Stays (l:List zab) (e:zab):Prop:=e∈l∧eventB e=true∧∀ f∈l,eventB f=true→idE f=idE e→f=e
theorem keep_iff {l:List zab} {e:zab}:e∈keepS l↔Stays l e:=by
 have hK:=zpn l; have hS:=zAx l; constructor
 · intro h; obtain ⟨p,hp,hpe⟩:=zug.1 (show e∈(zbT l).filterMap (pickG l) from h); obtain ⟨e',h1,h2,h3⟩:=hK.2 p hp; unfold pickG at hpe; split at hpe
   · cases hpe
   rename_i hd; rw [h1] at hpe; injection hpe with hpe; subst hpe; refine ⟨zbP h1,h3,fun f hf hvf hid=>?_⟩; have:=hS p.1; rw [ztU hK.1 hp] at this; simp only at this; obtain ⟨j,hj,hjf⟩:=zh3.1 hf; by_cases hfe:l[p.2.first.toNat]?=some f
   · rw [h1] at hfe; injection hfe with hfe; exact hfe.symm
   · exact absurd (this.2 ⟨j,f,hj,by rw [zaC hj,hjf],hvf,by rw [hid]; exact h2,hfe⟩) hd
 · rintro ⟨h1,h2,h3⟩
   obtain ⟨j,hj,hje⟩:=zh3.1 h1; have hje':l[j]?=some e:=by rw [zaC hj,hje]
   have:=hS (idE e)
   cases hf:mfind (idE e) (zbT l) with
   | none=>rw [hf] at this; exact absurd rfl (this j e hj hje' h2)
   | some g =>
     rw [hf] at this; simp only at this; have hp:=zj2 hf; obtain ⟨e',q1,q2,q3⟩:=hK.2 _ hp; have he':e'=e:=h3 e' (zbP q1) q3 q2; subst he'; show e'∈(zbT l).filterMap (pickG l); refine zug.2 ⟨_,hp,?_⟩; unfold pickG; rw [if_neg]
     · exact q1
     · intro hd; obtain ⟨i,f,r1,r2,r3,r4,r5⟩:=this.1 hd; have:=h3 f (zbP r2) r3 r4; subst this; exact r5 q1
theorem zlI {l:List zab} {e:zab}:e∈canonS l↔Stays l e:=by rw [(zee l).mem_iff,keep_iff]
def deskE (s:zay) (i:Nat) (d:zaf) (e:zab):zaf:=
 if e.Kind=1 then (if e.Marker.toNat=i then reinS e.Stamp d else d)
 else if e.Kind=0∧e.Stamp.Source.toNat=i then (match fitS s e with
  | some q=>(match seedS s e.Script,s.Papers[q]? with
    | some sd,some p=>noteS s p sd e d
    | none,_=>{ d with marks:=d.marks++[⟨e,d.watch.Suspended⟩] }
    | _,_=>d)
  | none=>d)
 else d
def reopE (R:Reop) (e:zab):Reop:=if e.Kind=2 then mput ⟨e.Script,e.Part⟩ e.Stamp R else R
theorem evS_fst (s:zay) (st:Desks×Reop) (e:zab) (i:Nat):(evS s st e).1 i=(st.1 i).map (fun d=>deskE s i d e):=by
 have idm:∀ (f:zaf→zaf),(∀ d,f d=d)→st.1 i=(st.1 i).map f:=fun f h=>by
  cases st.1 i with
  | none=>rfl
  | some d=>simp [h d]
 by_cases k1:e.Kind=1
 · have hd:∀ d,deskE s i d e=if e.Marker.toNat=i then reinS e.Stamp d else d:=fun d=>by unfold deskE; rw [if_pos k1]
   unfold evS; rw [if_pos k1]; by_cases hi:e.Marker.toNat=i
   · simp only [hd,hi,if_true]
     cases h:st.1 i with
     | none=>simp [h]
     | some d=>simp [upd]
   · simp only [hd,hi,if_false]
     cases h:st.1 e.Marker.toNat with
     | none=>exact idm _ fun d=>rfl
     | some d0=>simp only [upd]; rw [if_neg (show ¬ i=e.Marker.toNat from fun h=>hi h.symm)]; exact idm _ fun d=>rfl
 by_cases k0:e.Kind=0
 case neg =>
  have hd:∀ d,deskE s i d e=d:=fun d=>by unfold deskE; rw [if_neg k1,if_neg (fun h=>k0 h.1)]
  have:(evS s st e).1=st.1:=by
   unfold evS; rw [if_neg k1]; split
   · rfl
   · rfl
  rw [this]; exact idm _ hd
 have k2:¬ e.Kind=2:=by omega
 unfold evS; rw [if_neg k1,if_neg k2,if_pos k0]; by_cases hi:e.Stamp.Source.toNat=i
 · have hd:∀ d,deskE s i d e=(match fitS s e with
    | some q=>(match seedS s e.Script,s.Papers[q]? with
      | some sd,some p=>noteS s p sd e d
      | none,_=>{ d with marks:=d.marks++[⟨e,d.watch.Suspended⟩] }
      | _,_=>d)
    | none=>d):=fun d=>by unfold deskE; rw [if_neg k1,if_pos ⟨k0,hi⟩]
   simp only [hd,hi]
   cases h:st.1 i with
   | none=>simp [h]
   | some d =>
     cases hf:fitS s e with
     | none=>simp [h]
     | some q =>
       cases hs:seedS s e.Script with
       | none=>simp [upd]
       | some sd =>
         cases hp:s.Papers[q]? with
         | none=>simp [h,hp]
         | some p=>simp [upd,hp]
 · have hd:∀ d,deskE s i d e=d:=fun d=>by unfold deskE; rw [if_neg k1,if_neg (fun h=>hi h.2)]
   rw [show (fun d=>deskE s i d e)=id from funext hd,Option.map_id]
   cases h:st.1 e.Stamp.Source.toNat with
   | none=>rfl
   | some d0 =>
     cases hf:fitS s e with
     | none=>rfl
     | some q =>
       cases hs:seedS s e.Script with
       | none=>simp only [upd]; rw [if_neg (show ¬ i=e.Stamp.Source.toNat from fun h=>hi h.symm)]; rfl
       | some sd =>
         cases hp:s.Papers[q]? with
         | none=>simp only [hp]; rfl
         | some p=>simp only [hp,upd]; rw [if_neg (show ¬ i=e.Stamp.Source.toNat from fun h=>hi h.symm)]; rfl
theorem evS_snd (s:zay) (st:Desks×Reop) (e:zab):(evS s st e).2=reopE st.2 e:=by
 unfold reopE; by_cases k1:e.Kind=1
 · rw [iNQ]; unfold evS; rw [if_pos k1]; split <;> rfl
 by_cases k2:e.Kind=2
 · rw [if_pos k2]; unfold evS; rw [if_neg k1,if_pos k2]
 rw [if_neg k2]; unfold evS; rw [if_neg k1,if_neg k2]; split
 · split
   · split <;> rfl
   · rfl
 · rfl
theorem walk_fst (s:zay):∀ (ev:List zab) (st:Desks×Reop) (i:Nat),(ev.foldl (evS s) st).1 i=(st.1 i).map (fun d=>ev.foldl (deskE s i) d)
 | [],st,i=>by simp
 | e :: r,st,i=>by rw [zeP,walk_fst s r (evS s st e) i,evS_fst,Option.map_map]; rfl
theorem walk_snd (s:zay):∀ (ev:List zab) (st:Desks×Reop),(ev.foldl (evS s) st).2=ev.foldl reopE st.2
 | [],st=>rfl
 | e :: r,st=>by rw [zeP,walk_snd s r (evS s st e),evS_snd]; rfl
theorem zoM (s:zay) (ev:List zab) (i:Nat):(walkS s ev).1 i=(seats s.Markers i).map (fun d=>ev.foldl (deskE s i) d):=walk_fst s ev _ i
theorem zt6 (s:zay) (ev:List zab):(walkS s ev).2=ev.foldl reopE []:=walk_snd s ev _
theorem zlH (l:List zab):(canonS l).Pairwise (fun a b=>lessS a.Stamp b.Stamp=true):=by
 have h1:=zts l
 have h2:(canonS l).Pairwise (fun a b=>idE a≠idE b):=by refine (List.Perm.pairwise_iff (fun {a b} h=>(Ne.symm h:_)) (zee l)).2 ?_; exact keep_ids l
 refine (h1.and h2).imp ?_; intro a b ⟨q1,q2⟩
 cases h:lessS a.Stamp b.Stamp with
 | true=>rfl
 | false=>exact absurd (by unfold idE; rw [lessS_eq h q1]) q2
theorem lessS_tr {a b c:zaM} (h1:lessS a b=true) (h2:lessS b c=true):lessS a c=true:=by
 unfold lessS at *
 grind
theorem zzP (a:zaM):lessS a a=false:=by unfold lessS; simp
theorem walk_ind {s:zay} {ev:List zab} {i:Nat} (Q:List zab→zaf→Prop)
  (h0:∀ m∈s.Markers,m.ID.toNat=i→Q [] (desk0 m.Level))
  (h1:∀ (pre:List zab) (e:zab) (post:List zab) (d:zaf),ev=pre++e :: post→Q pre d→Q (pre++[e]) (deskE s i d e))
  {d:zaf} (h:(walkS s ev).1 i=some d):Q ev d:=by
 rw [zoM] at h
 cases hs:seats s.Markers i with
 | none=>rw [hs] at h; cases h
 | some d0 =>
   rw [hs] at h; injection h with h; obtain ⟨m,m1,m2,rfl⟩:=zp0 _ _ _ hs
   have key:∀ (post pre:List zab) (d:zaf),ev=pre++post→Q pre d→Q ev (post.foldl (deskE s i) d):=by
    intro post
    induction post with
    | nil=>intro pre d e q; rw [e,zrC]; exact q
    | cons x r ih=>intro pre d e q; exact ih (pre++[x]) _ (by rw [e]; simp) (h1 pre x r d e q)
   rw [← h]; exact key ev [] _ (by simp) (h0 m m1 m2)
set_option maxRecDepth 20000
theorem few_of {l:List zab} (h:l.length < 200) (hp:∀ e∈l,e.Pages.length≤1000000):FewEv l:=
 ⟨by omega,by
  have h1:=zxj l; have h2:(keepS l).length≤(zbT l).length:=zrA _ _
  omega,hp⟩
def zjL (m:zbw) (sc pa:Int):List zbp:=m.Given.filter fun g=>g.Script == sc && g.Part == pa
theorem zwP (m:zbw) (sc pa:Int) (hl:m.Given.length≤1000000):cw zgK [.agg (zbM m),I sc,I pa] []=some (zgY (zjL m sc pa)):=by
 refine ztz m sc pa ?_
 have key:∀ (n i:Nat) (out:List zbp),i+n=m.Given.length→out.length≤i→zdO m sc pa (List.map za5 out) i=some (zgY (out++(m.Given.drop i).filter fun g=>g.Script == sc && g.Part == pa)):=by
  intro n
  induction n with
  | zero=>intro i out hi ho; refine zmq _ _ _ _ _ ?_; rw [zap,zaT (by omega),zan rfl,zjG (by omega)]; simp; rfl
  | succ n ih =>
    intro i out hi ho; have hlt:i < m.Given.length:=by omega
    refine zmq _ _ _ _ _ ?_; rw [zap,zaF (by omega),cPQ,za4,zft,zaC hlt,zaY,w6Q,show ((i:Int)+1)=((i+1:Nat):Int) by omega,zf8 hlt,zmJ]
    cases h1:(m.Given[i].Script == sc) with
    | false=>rw [zaw,zjE,iNs]; exact ih (i+1) out (by omega) (by omega)
    | true =>
      cases h2:(m.Given[i].Part == pa) with
      | false=>rw [zaI,zaw,zoZ,iNs]; exact ih (i+1) out (by omega) (by omega)
      | true=>rw [zaI,zaI,zoY,if_pos rfl,zan rfl,zan (by simp only [zap]; omega),zan rfl,zel za5]; have:=ih (i+1) (out++[m.Given[i]]) (by omega) (by simp; omega); rw [zgz] at this; exact this
 have:=key m.Given.length 0 [] (by omega) (by simp); rw [zoD,List.nil_append] at this; exact this
def suspB (id:Int) (a:zaM) (x:za8):Bool:=x.Marker == id && !lessS a x.At && (!x.Lifted || lessS a x.Until)
def zeM (m:zbw) (id:Int) (a:zaM):Bool:=m.Suspensions.any (suspB id a)
theorem zsB (x:za8) (id:Int) (a:zaM):cw zcp [.agg (zah x),.fp [I id],.fp [I a.Time,I a.Source,I a.Seq]] []=some (zam (suspB id a x)):=by
 refine zq5 x id a ?_; rw [zqX,za0,cmpS_le,zqX,za0,zpd]; unfold suspB
 cases (x.Marker == id) with
 | false=>rfl
 | true =>
   cases lessS a x.At with
   | true=>rfl
   | false=>cases x.Lifted <;> rfl
theorem c_idxS (l:List za8) (id:Int) (a:zaM) (hl:l.length≤1000000):cw zcB [.sl 12 (List.map zah l),.fn zcp [.fp [I id],.fp [I a.Time,I a.Source,I a.Seq]]] []=some (zbf (match fnd (suspB id a) 0 l with | some (i,_)=>(i:Int) | none=>-1)):=by
 refine zgc l id a ?_; refine zfK l (suspB id a) (fun i=>zb4 l id a i) (fun o=>zbf (match o with | some (i,_)=>(i:Int) | none=>-1)) ?_ ?_ ?_
 · exact zcs _ _ _ _ (by simp (disch:=omega) only [zap,zaT]; rfl)
 · intro i hi h; refine zcs _ _ _ _ ?_; simp (disch:=omega) only [zap,zaF,zan,za4,zdX,zaC hi,zaY,zsB,zai]; rw [h,zaI]; rfl
 · intro i hi y h hk; refine zcs _ _ _ _ ?_; simp (disch:=omega) only [zap,zaF,zan,za4,zdX,zaC hi,zaY,zsB,zai]; rw [h,zaw,w6Q]; exact hk
theorem zk3 (m:zbw) (id:Int) (a:zaM) (hl:m.Suspensions.length≤1000000):cw zdv [.agg (zbM m),I id,.agg (zbI a)] []=some (zam (zeM m id a)):=by
 refine zsX m id a ?_; rw [zfN m.Suspensions id a (y:=zam (zeM m id a)) ?_,zai]
 · rfl
 · rw [c_idxS _ _ _ hl,za0]; unfold zeM; rw [← zuk]
   cases fnd (suspB id a) 0 m.Suspensions with
   | none=>rfl
   | some q=>simp; rfl
theorem c_rSame (a b:zbw) (h1:a.Given.length≤1000000) (h2:a.Suspensions.length≤1000000):cw zpj [.agg (zbM a),.agg (zbM b)] []=some (zam (dec (a=b))):=by
 refine zzL a b ?_; obtain ⟨ag,us⟩:=a; obtain ⟨bg,vs⟩:=b; simp only at h1 h2; simp only [zap]; by_cases hg:ag.length=bg.length
 case neg=>rw [show ((ag.length:Int) != (bg.length:Int))=true by simp only [bne_iff_ne,ne_eq]; omega,zaI,zbG (fun h=>hg (by injection h with h _; rw [h]))]; rfl
 rw [show ((ag.length:Int) != (bg.length:Int))=false by simp [hg],zaw]; by_cases hs:us.length=vs.length
 case neg=>rw [show ((us.length:Int) != (vs.length:Int))=true by simp only [bne_iff_ne,ne_eq]; omega,zaI,zbG (fun h=>hs (by injection h with _ h; rw [h]))]; rfl
 rw [show ((us.length:Int) != (vs.length:Int))=false by simp [hs],zaw]
 have eqG:∀ x y:zbp,(x.Script == y.Script && (x.Part == y.Part && (x.Marker == y.Marker && (x.Level == y.Level && (x.Value == y.Value && (x.Stamp.Time == y.Stamp.Time && (x.Stamp.Source == y.Stamp.Source && (x.Stamp.Seq == y.Stamp.Seq && true)) && true))))))=decide (x=y):=by
  rintro ⟨a1,a2,a3,a4,a5,a6,a7,a8⟩ ⟨b1,b2,b3,b4,b5,b6,b7,b8⟩
  rw [zoE]; simp [and_assoc]
 have eqS:∀ x y:za8,(x.Marker == y.Marker && (x.Good.Time == y.Good.Time && (x.Good.Source == y.Good.Source && (x.Good.Seq == y.Good.Seq && true)) && (x.At.Time == y.At.Time && (x.At.Source == y.At.Source && (x.At.Seq == y.At.Seq && true)) && (x.Until.Time == y.Until.Time && (x.Until.Source == y.Until.Source && (x.Until.Seq == y.Until.Seq && true)) && (x.First == y.First && (x.Lifted == y.Lifted && true))))))=decide (x=y):=by
  rintro ⟨a1,⟨a2,a3,a4⟩,⟨a5,a6,a7⟩,⟨a8,a9,a10⟩,a11,a12⟩ ⟨b1,⟨b2,b3,b4⟩,⟨b5,b6,b7⟩,⟨b8,b9,b10⟩,b11,b12⟩
  rw [zoE]; simp [and_assoc]
 have L2:=zln us.length (fun j hj=>us[j]=vs[j]'(by omega)) (fun i=>zkt ⟨ag,us⟩ ⟨bg,vs⟩ i) zam ?_ ?_ ?_
 · have L1:=zmR ag.length (fun j hj=>ag[j]=bg[j]'(by omega)) (fun i=>zks ⟨ag,us⟩ ⟨bg,vs⟩ i) (fun y=>y=zam false) (zam (dec (∀ (j:Nat) (hj:j < us.length),us[j]=vs[j]'(by omega)))) ?_ ?_ ?_
   · rcases L1 with ⟨q1,q2⟩ | ⟨⟨j,hj,q1⟩,y,rfl,q3⟩
     · have e:dec (∀ (j:Nat) (hj:j < us.length),us[j]=vs[j]'(by omega))=dec ((⟨ag,us⟩:zbw)=⟨bg,vs⟩):=by
        refine zkl ⟨fun h=>?_,fun h=>?_⟩
        · rw [zoX hg (fun i h1 _=>q1 i h1),zoX hs (fun i h1 _=>h i h1)]
        · injection h with _ h; subst h; intros; rfl
       rw [← e]; exact q2
     · rw [zbG (fun h=>q1 (by injection h with h _; subst h; rfl))]; exact q3
   · intro _; refine znd _ _ _ ?_; simp (disch:=omega) only [zap,zaT]; exact L2
   · intro i hi _ hn; refine ⟨_,rfl,znd _ _ _ ?_⟩; simp (disch:=omega) only [zap,zaF,zan,za4,zft,zaC hi,zaC (show i < bg.length by omega),zaY,eqG]; rw [decide_eq_false hn,zcx,zaI]; rfl
   · intro i hi y hn hk; refine znd _ _ _ ?_; simp (disch:=omega) only [zap,zaF,zan,za4,zft,zaC hi,zaC (show i < bg.length by omega),zaY,eqG]; rw [decide_eq_true hn,zbO,zaw,w6Q]; exact hk
 · refine zne _ _ _ ?_; simp (disch:=omega) only [zap,zaT]; rfl
 · intro i hi hn; refine zne _ _ _ ?_; simp (disch:=omega) only [zap,zaF,zan,za4,zdX,zaC hi,zaC (show i < vs.length by omega),zaY,eqS]; rw [decide_eq_false hn,zcx,zaI]; rfl
 · intro i hi y hn hk; refine zne _ _ _ ?_; simp (disch:=omega) only [zap,zaF,zan,za4,zdX,zaC hi,zaC (show i < vs.length by omega),zaY,eqS]; rw [decide_eq_true hn,zbO,zaw,w6Q]; exact hk
structure FairD (i:Nat) (pre:List zab) (d:zaf):Prop where
 mrk:∀ x∈d.marks,x.event∈pre
 sAt:∀ y∈d.suspensions,(∃ e∈pre,y.At=e.Stamp)∧(y.Lifted=true→∃ e∈pre,y.Until=e.Stamp)∧y.Marker=(i:Int)
 lift:d.watch.Suspended=false→∀ y∈d.suspensions,y.Lifted=true
 lift2:d.watch.Suspended=true→∀ (k:Nat) (y:za8),d.suspensions[k]?=some y→(k+1≠d.suspensions.length→y.Lifted=true)∧(k+1=d.suspensions.length→y.Lifted=false)
 out:∀ x∈d.marks,x.void=false→∀ y∈d.suspensions,lessS x.event.Stamp y.At=true∨(y.Lifted=true∧lessS x.event.Stamp y.Until=false)
 bad:∀ x∈d.marks,x.void=false→∀ y∈d.suspensions,y.First=false→lessS y.Good x.event.Stamp=true→lessS y.At x.event.Stamp=true
 per:∀ (k:Nat) (x:zbc),d.marks[k]?=some x→(k:Int) < d.period→lessS d.started x.event.Stamp=false
 st:d.period≤0∨∃ e∈pre,d.started=e.Stamp
 good:d.some=true→d.period≤0∨lessS d.started d.good=true
 pos:d.period≤(d.marks.length:Int)
theorem FairD.mono {i pre d} (h:FairD i pre d) (e:zab):FairD i (pre++[e]) d:=by
 have up:∀ {f:zab},f∈pre→f∈pre++[e]:=fun h=>zqM _ h
 refine ⟨fun x hx=>up (h.mrk x hx),fun y hy=>?_,h.lift,h.lift2,h.out,h.bad,h.per,?_,h.good,h.pos⟩
 · obtain ⟨⟨f,f1,f2⟩,g,m⟩:=h.sAt y hy; exact ⟨⟨f,up f1,f2⟩,fun hl=>by obtain ⟨q,q1,q2⟩:=g hl; exact ⟨q,up q1,q2⟩,m⟩
 · rcases h.st with q | ⟨f,f1,f2⟩
   · exact .inl q
   · exact .inr ⟨f,up f1,f2⟩
theorem FairD.rein {i pre d} (h:FairD i pre d) {e:zab} (hlt:∀ f∈pre,lessS f.Stamp e.Stamp=true):FairD i (pre++[e]) (reinS e.Stamp d):=by
 unfold reinS; split
 case isFalse=>exact h.mono e
 rename_i hs; have h':=h.mono e
 have mem:∀ y'∈d.suspensions.modify (d.suspensions.length - 1) (fun x=>{ x with Lifted:=true,Until:=e.Stamp }),∃ y∈d.suspensions,(y'={ y with Lifted:=true,Until:=e.Stamp }∧y.Lifted=false)∨(y'=y∧y.Lifted=true):=by
  intro y' hy; obtain ⟨k,hk⟩:=aLiAs63 hy; rw [zvG] at hk
  cases hg:d.suspensions[k]? with
  | none=>rw [hg] at hk; simp at hk
  | some y =>
    rw [hg] at hk; have hlen:k < d.suspensions.length:=(zbs.1 hg).1; refine ⟨y,zbP hg,?_⟩; obtain ⟨q1,q2⟩:=h.lift2 hs k y hg; by_cases hl:d.suspensions.length - 1=k
    · left; exact ⟨by simpa [hl,eq_comm] using hk,q2 (by omega)⟩
    · right; exact ⟨by simpa [hl,eq_comm] using hk,q1 (by omega)⟩
 refine ⟨h'.mrk,fun y' hy=>?_,fun _ y' hy=>?_,fun hh=>absurd hh (by simp),fun x hx hv y' hy=>?_,fun x hx hv y' hy hf hg=>?_,fun k x hk _=>?_,.inr ⟨e,by simp,rfl⟩,fun hh=>absurd hh (by simp),by simp⟩
 · obtain ⟨y,y1,y2⟩:=mem y' hy; obtain ⟨a1,a2,a3⟩:=h'.sAt y y1; rcases y2 with ⟨rfl,_⟩ | ⟨rfl,_⟩
   · exact ⟨a1,fun _=>⟨e,by simp,rfl⟩,a3⟩
   · exact ⟨a1,a2,a3⟩
 · obtain ⟨y,y1,y2⟩:=mem y' hy; rcases y2 with ⟨rfl,_⟩ | ⟨rfl,q⟩
   · rfl
   · exact q
 · obtain ⟨y,y1,y2⟩:=mem y' hy; rcases y2 with ⟨rfl,q⟩ | ⟨rfl,_⟩
   · rcases h.out x hx hv y y1 with r | ⟨r,_⟩
     · exact .inl r
     · rw [q] at r; cases r
   · exact h.out x hx hv _ y1
 · obtain ⟨y,y1,y2⟩:=mem y' hy; rcases y2 with ⟨rfl,_⟩ | ⟨rfl,_⟩
   · exact h.bad x hx hv y y1 hf hg
   · exact h.bad x hx hv _ y1 hf hg
 · exact zhi (hlt _ (h.mrk x (zbP hk)))
theorem FairD.app {i pre d} (h:FairD i pre d) {e:zab} (hlt:∀ f∈pre,lessS f.Stamp e.Stamp=true):FairD i (pre++[e]) { d with marks:=d.marks++[⟨e,d.watch.Suspended⟩] }:=by
 have h':=h.mono e; refine ⟨fun x hx=>?_,h'.sAt,h.lift,h.lift2,fun x hx hv y hy=>?_,fun x hx hv y hy hf hg=>?_,fun k x hk hp=>?_,h'.st,h.good,?_⟩
 · rcases zbF.1 hx with hx | hx
   · exact h'.mrk x hx
   · rw [zcf.1 hx]; simp
 · rcases zbF.1 hx with hx | hx
   · exact h.out x hx hv y hy
   · rw [zcf.1 hx] at hv ⊢; have hl:=h.lift hv y hy; obtain ⟨f,f1,f2⟩:=(h.sAt y hy).2.1 hl; exact .inr ⟨hl,by rw [f2]; exact zhi (hlt f f1)⟩
 · rcases zbF.1 hx with hx | hx
   · exact h.bad x hx hv y hy hf hg
   · rw [zcf.1 hx]; obtain ⟨f,f1,f2⟩:=(h.sAt y hy).1; rw [f2]; exact hlt f f1
 · have hp':(k:Int) < d.period:=hp; have:=h.pos; rw [zmE (by omega)] at hk; exact h.per k x hk hp'
 · have:=h.pos; simp only [zep,zvB]; omega
theorem FairD.susp {i pre d} (h:FairD i pre d) {e:zab} (hlt:∀ f∈pre,lessS f.Stamp e.Stamp=true) (hw:d.watch.Suspended=false) {w:zcY} (hn:w.Suspended=true) (no:List (zar×Int)) {id:Int} (hid:id=(i:Int)):FairD i (pre++[e]) (suspS id e.Stamp { d with noted:=no,watch:=w }):=by
 have h':=h.mono e; subst hid; unfold suspS; simp only; generalize hg:(if d.some then d.good else d.started)=g
 have mem:∀ (k:Nat) (x':zbc),(d.marks.mapIdx (voidIf d.period (!d.some) g))[k]?=some x'→∃ x,d.marks[k]?=some x∧x'.event=x.event∧(x'.void=false→x.void=false∧¬ (d.period≤k∧(!d.some || lessS g x.event.Stamp)=true)):=by
  intro k x' hk; rw [zjH] at hk
  cases hm:d.marks[k]? with
  | none=>rw [hm] at hk; cases hk
  | some x =>
    rw [hm] at hk; injection hk with hk; refine ⟨x,rfl,by rw [← hk,zt5],fun hv=>?_⟩; rw [← hk] at hv; unfold voidIf at hv; split at hv
    · cases hv
    · rename_i q; exact ⟨hv,q⟩
 have mem':∀ x'∈d.marks.mapIdx (voidIf d.period (!d.some) g),∃ (k:Nat) (x:zbc),d.marks[k]?=some x∧x'.event=x.event∧(x'.void=false→x.void=false∧¬ (d.period≤k∧(!d.some || lessS g x.event.Stamp)=true)):=fun x' hx=>by obtain ⟨k,hk⟩:=aLiAs63 hx; obtain ⟨x,q⟩:=mem k x' hk; exact ⟨k,x,q⟩
 refine ⟨fun x' hx=>?_,fun y hy=>?_,fun hh=>?_,fun _ k y hk=>?_,fun x' hx hv y hy=>?_,fun x' hx hv y hy hf hgd=>?_,fun k x' hk hp=>?_,h'.st,h.good,?_⟩
 · obtain ⟨k,x,q1,q2,_⟩:=mem' x' hx; rw [q2]; exact h'.mrk x (zbP q1)
 · rcases zbF.1 hy with hy | hy
   · exact h'.sAt y hy
   · rw [zcf.1 hy]; exact ⟨⟨e,by simp,rfl⟩,fun hh=>absurd hh (by simp),rfl⟩
 · rw [hn] at hh; cases hh
 · rw [zep,zvB]; by_cases hk':k < d.suspensions.length
   · rw [zmE hk'] at hk; exact ⟨fun _=>h.lift hw y (zbP hk),fun q=>absurd q (by omega)⟩
   · rw [List.getElem?_append_right (by omega)] at hk
     have:k - d.suspensions.length=0:=by have:=(zbs.1 hk).1; simp at this; omega
     rw [this] at hk; simp only [ze5,zat] at hk; exact ⟨fun q=>absurd (by omega) q,fun _=>by rw [← hk]⟩
 · obtain ⟨k,x,q1,q2,q3⟩:=mem' x' hx; have hx0:=zbP q1; rw [q2]; rcases zbF.1 hy with hy | hy
   · exact h.out x hx0 (q3 hv).1 y hy
   · rw [zcf.1 hy]; exact .inl (hlt _ (h.mrk x hx0))
 · obtain ⟨k,x,q1,q2,q3⟩:=mem' x' hx; have hx0:=zbP q1; rw [q2] at hgd ⊢; rcases zbF.1 hy with hy | hy
   · exact h.bad x hx0 (q3 hv).1 y hy hf hgd
   · rw [zcf.1 hy] at hf hgd; simp only at hf hgd; exfalso; have hs:d.some=true:=by simpa using hf
     have hk:¬ d.period≤(k:Int):=fun hk=>(q3 hv).2 ⟨hk,by simp only [hgd,Bool.or_true]⟩
     have hp:=h.per k x q1 (by omega); rw [hs,if_pos rfl] at hg; rw [← hg] at hgd; rcases h.good hs with r | r
     · omega
     · rw [lessS_tr r hgd] at hp; cases hp
 · obtain ⟨x,q1,q2,_⟩:=mem k x' hk; rw [q2]; exact h.per k x q1 hp
 · have:=h.pos; simpa using this
theorem FairD.note {i pre d} (h:FairD i pre d) {e:zab} (hlt:∀ f∈pre,lessS f.Stamp e.Stamp=true) (s:zay) (p:zaE) (sd:GSeed) (hid:e.Stamp.Source=(i:Int)):FairD i (pre++[e]) (noteS s p sd e d):=by
 have h':=h.mono e; unfold noteS; split
 · exact h'
 · simp only; split
   · exact ⟨h'.mrk,h'.sAt,h'.lift,h'.lift2,h'.out,h'.bad,h'.per,h'.st,h'.good,h'.pos⟩
   · split
     · exact ⟨h'.mrk,h'.sAt,h'.lift,h'.lift2,h'.out,h'.bad,h'.per,h'.st,h'.good,h'.pos⟩
     · rename_i hw; have hw:d.watch.Suspended=false:=by simpa using hw
       split
       · rename_i hn; exact h.susp hlt hw hn _ hid
       · rename_i hn; split
         · refine ⟨h'.mrk,h'.sAt,fun _=>h'.lift hw,fun q=>absurd q hn,h'.out,h'.bad,h'.per,h'.st,fun _=>?_,h'.pos⟩; rcases h.st with q | ⟨f,f1,f2⟩
           · exact .inl q
           · right; simp only; rw [f2]; exact hlt f f1
         · exact ⟨h'.mrk,h'.sAt,fun _=>h'.lift hw,fun q=>absurd q hn,h'.out,h'.bad,h'.per,h'.st,h'.good,h'.pos⟩
theorem asc_at {ev pre post:List zab} {e:zab} (ha:ev.Pairwise (fun a b=>lessS a.Stamp b.Stamp=true)) (he:ev=pre++e :: post):∀ f∈pre,lessS f.Stamp e.Stamp=true:=by rw [he] at ha; exact fun f hf=>(List.pairwise_append.1 ha).2.2 f hf e (by simp)
theorem znE {s:zay} {ev:List zab} (ha:ev.Pairwise (fun a b=>lessS a.Stamp b.Stamp=true)) (hv:∀ e∈ev,eventB e=true) {i:Nat} {d:zaf} (h:(walkS s ev).1 i=some d):FairD i ev d:=by
 refine walk_ind (FairD i) (fun m _ _=>?_) (fun pre e post d he q=>?_) h
 · exact ⟨by simp [desk0],by simp [desk0],by simp [desk0],by simp [desk0],by simp [desk0],by simp [desk0],by simp [desk0],by simp [desk0],by simp [desk0],by simp [desk0]⟩
 · have hlt:=asc_at ha he; unfold deskE; split
   · split
     · exact q.rein hlt
     · exact q.mono e
   · split
     · rename_i k; have hb:=zpR (hv e (by rw [he]; simp))
       have hid:e.Stamp.Source=(i:Int):=by have:=hb.1.2.1; omega
       split
       · split
         · exact q.note hlt _ _ _ hid
         · exact q.app hlt
         · exact q.mono e
       · exact q.mono e
     · exact q.mono e
theorem zuZ {l:List zab}:∀ e∈canonS l,eventB e=true:=fun _ he=>(zlI.1 he).2.1
theorem susp_of {ds:Desks} {n:Nat} {y:za8} (h:y∈suspTo ds n):∃ (i:Nat) (d:zaf),i < n∧ds i=some d∧y∈d.suspensions:=by
 unfold suspTo at h; obtain ⟨i,hi,hy⟩:=zce.1 h
 cases hd:ds i with
 | none=>rw [hd] at hy; cases hy
 | some d=>rw [hd] at hy; exact ⟨i,d,zhC.1 hi,hd,hy⟩
theorem zxf {α β:Type} {f g:α→List β}:∀ {l:List α},(∀ x∈l,f x=g x)→l.flatMap f=l.flatMap g
 | [],_=>rfl
 | x :: r,h=>by rw [aLiAs9,aLiAs9,h x (by simp),zxf (fun y hy=>h y (by simp [hy]))]
theorem seats_some {ms:List zaU} {m:zaU} (hm:m∈ms):∃ d,seats ms m.ID.toNat=some d:=by
 have stay:∀ (l:List zaU) (ds:Desks) (i:Nat),(∃ d,ds i=some d)→∃ d,(l.foldl (fun ds m=>upd ds m.ID.toNat (desk0 m.Level)) ds) i=some d:=by
  intro l
  induction l with
  | nil=>intro ds i h; exact h
  | cons x r ih =>
    intro ds i h; refine ih _ i ?_; by_cases hi:i=x.ID.toNat
    · exact ⟨_,by rw [hi]; exact zng _ _ _⟩
    · obtain ⟨d,hd⟩:=h; exact ⟨d,(znS ds (desk0 x.Level) hi).trans hd⟩
 have key:∀ (l:List zaU) (ds:Desks),m∈l→∃ d,(l.foldl (fun ds m=>upd ds m.ID.toNat (desk0 m.Level)) ds) m.ID.toNat=some d:=by
  intro l
  induction l with
  | nil=>intro _ h; cases h
  | cons x r ih =>
    intro ds h; rcases za1.1 h with rfl | h
    · exact stay r _ _ ⟨_,zng _ _ _⟩
    · exact ih _ h
 exact key ms _ hm
def keepM (d:zaf) (R:Reop) (e:zab):Bool:=!(decide (d.level < 2) && reopB R e)
def zrg (d:zaf):List zab:=(d.marks.filter fun x=>!x.void).map (·.event)
theorem ztv (d:zaf) (R:Reop):countS d R=((zrg d).filter (keepM d R)).foldl (fun m e=>mput (⟨e.Script,e.Part⟩:zar) e m) []:=by
 have key:∀ (l:List zbc) (m:Counts),l.foldl (zdG d R) m=(((l.filter fun x=>!x.void).map (·.event)).filter (keepM d R)).foldl (fun m e=>mput (⟨e.Script,e.Part⟩:zar) e m) m:=by
  intro l
  induction l with
  | nil=>intro m; rfl
  | cons x r ih =>
    intro m; rw [zeP,ih]; unfold zdG
    cases hv:x.void with
    | true=>rw [if_pos rfl,zmJ,if_neg (show ¬ (!x.void)=true by rw [hv]; simp)]
    | false =>
      rw [iNs,zmJ,if_pos (show (!x.void)=true by rw [hv]; rfl),zco,zmJ]; by_cases hk:d.level < 2∧reopB R x.event=true
      · rw [if_pos hk,if_neg (by unfold keepM; simp [hk.1,hk.2])]
      · rw [if_neg hk,if_pos,zeP]; unfold keepM; simp only [zuf,Bool.and_eq_false_iff,decide_eq_false_iff_not]; by_cases h2:d.level < 2
        · right; simpa using fun h=>hk ⟨h2,h⟩
        · left; exact h2
 exact key d.marks []
theorem zxz {l:List zab} {r:zab} (hr:eventB r=true) (hn:∀ f∈l,eventB f=true→idE f≠idE r) (e:zab):Stays (l++[r]) e↔Stays l e∨e=r:=by
 unfold Stays; constructor
 · rintro ⟨h1,h2,h3⟩
   rcases zbF.1 h1 with h1 | h1
   · exact .inl ⟨h1,h2,fun f hf=>h3 f (zqM _ hf)⟩
   · exact .inr (zcf.1 h1)
 · rintro (⟨h1,h2,h3⟩ | rfl)
   · refine ⟨zqM _ h1,h2,fun f hf hv hi=>?_⟩; rcases zbF.1 hf with hf | hf
     · exact h3 f hf hv hi
     · rw [zcf.1 hf] at hi; exact absurd hi.symm (hn e h1 h2)
   · refine ⟨by simp,hr,fun f hf hv hi=>?_⟩; rcases zbF.1 hf with hf | hf
     · exact absurd hi (hn f hf hv)
     · exact zcf.1 hf
theorem zwK {a b:List zab} (h:∀ e,e∈a↔e∈b) (ha:a.Pairwise (fun a b=>lessS a.Stamp b.Stamp=true)) (hb:b.Pairwise (fun a b=>lessS a.Stamp b.Stamp=true)):a=b:=by
 have nd:∀ l:List zab,l.Pairwise (fun a b=>lessS a.Stamp b.Stamp=true)→l.Nodup:=fun l hl=>hl.imp fun {x y} h q=>by rw [q,zzP] at h; cases h
 have hp:=(zvJ (nd a ha) (nd b hb)).2 h; refine zli (lt:=fun a b:zab=>lessS a.Stamp b.Stamp) hp (ha.imp fun h=>zhi h) (hb.imp fun h=>zhi h) ?_; intro x hx y hy h1 h2; obtain ⟨i,hi,rfl⟩:=zh3.1 hx; obtain ⟨j,hj,rfl⟩:=zh3.1 hy; have:=zvD.1 ha; rcases zvC i j with q | q | q
 · have h3:lessS a[i].Stamp a[j].Stamp=true:=this i j hi hj q; rw [h3] at h1; cases h1
 · subst q; rfl
 · have h3:lessS a[j].Stamp a[i].Stamp=true:=this j i hj hi q; rw [h3] at h2; cases h2
theorem zrW {l:List zab} {r:zab} (hr:eventB r=true) (hn:∀ f∈l,eventB f=true→idE f≠idE r) (hl:∀ f∈canonS l,lessS f.Stamp r.Stamp=true):canonS (l++[r])=canonS l++[r]:=by refine zwK (fun e=>?_) (zlH _) (List.pairwise_append.2 ⟨zlH l,by simp,fun f hf g hg=>by rw [zcf.1 hg]; exact hl f hf⟩); rw [zlI,zxz hr hn,zbF,zlI,zcf]
theorem zAn {l:List zab} {r:zab} (hr:eventB r=true) (hn:∀ f∈l,eventB f=true→idE f≠idE r) (hl:∀ f∈canonS l,lessS r.Stamp f.Stamp=true):canonS (l++[r])=r :: canonS l:=by refine zwK (fun e=>?_) (zlH _) (zjI.2 ⟨fun f hf=>hl f hf,zlH l⟩); rw [zlI,zxz hr hn,za1,zlI]; exact or_comm
def suspAt (a:zaM) (y:za8):Bool:=!lessS a y.At && (!y.Lifted || lessS a y.Until)
theorem susp_at {s:zay} {ev:List zab} (ha:ev.Pairwise (fun a b=>lessS a.Stamp b.Stamp=true)) (hv:∀ e∈ev,eventB e=true) {id:Int} (hid:1≤id∧id≤99) {d:zaf} (hd:(walkS s ev).1 id.toNat=some d) (a:zaM):(suspTo (walkS s ev).1 100).any (suspB id a)=d.suspensions.any (suspAt a):=by
 rw [zoE,zmI,zmI]; constructor
 · rintro ⟨y,hy,h⟩
   obtain ⟨i,f,hi,hf,hm⟩:=susp_of hy; have h3:=((znE ha hv hf).sAt y hm).2.2; unfold suspB at h; simp only [zbK,beq_iff_eq] at h; have:i=id.toNat:=by omega
   subst this; rw [hd] at hf; injection hf with hf; subst hf; exact ⟨y,hm,by unfold suspAt; rw [zbK]; exact ⟨h.1.2,h.2⟩⟩
 · rintro ⟨y,hy,h⟩
   have h3:=((znE ha hv hd).sAt y hy).2.2; refine ⟨y,?_,?_⟩
   · unfold suspTo; refine zce.2 ⟨id.toNat,zhC.2 (by omega),?_⟩; rw [hd]; exact hy
   · unfold suspB; unfold suspAt at h; rw [show (y.Marker == id)=true by simp only [beq_iff_eq]; omega,zhb]; exact h
theorem znH {a b:zaM} (h:a.Time < b.Time):lessS a b=true:=by unfold lessS; rw [iPQ]; simpa using h
theorem ziG {a b:zaM} (h:b.Time < a.Time):lessS a b=false:=zhi (znH h)
structure Early (s:zay) (l:List zab):Prop where
 ok:zdl s
 few:l.length≤120
 ev:∀ e∈l,FullEv 50 e
theorem Early.src {s l} (h:Early s l):∀ e∈l,eventB e=true→1≤e.Stamp.Source:=fun e he hv=>by have h1:=(zpR hv).2.2.2.2; have h2:=(h.ev e he).2.1; unfold OkKind at h1; omega
theorem Early.can {s l} (h:Early s l):∀ e∈canonS l,e.Kind=0∧50≤e.Stamp.Time∧e.Stamp.Time≤170∧1000≤e.Stamp.Seq∧eventB e=true:=fun e he=>by obtain ⟨h1,h2,_⟩:=zlI.1 he; obtain ⟨_,q1,q2,q3,q4,_⟩:=h.ev e h1; exact ⟨q1,q2,by omega,q4,h2⟩
def endE (id:Int):zab:=⟨⟨900,0,1⟩,1,0,0,0,id,[]⟩
def beginE (id:Int):zab:=⟨⟨1,0,2⟩,1,0,0,0,id,[]⟩
def lateE (id n:Int) (ps:List Int):zab:=⟨⟨940,id,7⟩,0,n,0,1,0,ps⟩
theorem endE_ok {id:Int} (h:1≤id∧id≤99):eventB (endE id)=true:=by obtain ⟨h1,h2⟩:=h; simp [eventB,endE,stampB,h1,h2]
theorem beginE_ok {id:Int} (h:1≤id∧id≤99):eventB (beginE id)=true:=by obtain ⟨h1,h2⟩:=h; simp [eventB,beginE,stampB,h1,h2]
theorem lateE_ok {id n:Int} {ps:List Int} (h:1≤id∧id≤99) (hn:0≤n∧n≤319999) (hl:ps.length≤12) (hp:∀ y∈ps,0≤y∧y≤1152921504606846976):eventB (lateE id n ps)=true:=by
 obtain ⟨h1,h2⟩:=h; have h3:0≤id:=by omega
 simp [eventB,lateE,stampB,h1,h2,h3,hn.1,hn.2,hl]; exact hp
variable {s:zay} {l:List zab}
theorem Early.canEnd (h:Early s l) {id:Int} (hid:1≤id∧id≤99):canonS (l++[endE id])=canonS l++[endE id]:=
 zrW (endE_ok hid) (fun f hf hv q=>by
  have h1:=h.src f hf hv; have h2:f.Stamp.Source=0:=congrArg Prod.fst q
  omega) (fun f hf=>znH (by have:=h.can f hf; show f.Stamp.Time < 900; omega))
theorem Early.canBegin (h:Early s l) {id:Int} (hid:1≤id∧id≤99):canonS (l++[beginE id])=beginE id :: canonS l:=
 zAn (beginE_ok hid) (fun f hf hv q=>by
  have h1:=h.src f hf hv; have h2:f.Stamp.Source=0:=congrArg Prod.fst q
  omega) (fun f hf=>znH (by have:=h.can f hf; show 1 < f.Stamp.Time; omega))
theorem Early.canLate (h:Early s l) {id n:Int} {ps:List Int} (hv:eventB (lateE id n ps)=true):canonS (l++[lateE id n ps])=canonS l++[lateE id n ps]:=
 zrW hv (fun f hf _ q=>by
  have h1:=(h.ev f hf).2.2.2.2.1; have h2:f.Stamp.Seq=7:=congrArg Prod.snd q
  omega) (fun f hf=>znH (by have:=h.can f hf; show f.Stamp.Time < 940; omega))
theorem Early.canEndLate (h:Early s l) {id n:Int} {ps:List Int} (hid:1≤id∧id≤99) (hv:eventB (lateE id n ps)=true):canonS (l++[endE id,lateE id n ps])=canonS l++[endE id,lateE id n ps]:=by
 have:canonS ((l++[endE id])++[lateE id n ps])=canonS (l++[endE id])++[lateE id n ps]:=zrW hv (fun f hf _ q=>by
  have h2:f.Stamp.Seq=7:=congrArg Prod.snd q; rcases zbF.1 hf with hf | hf
  · have h1:=(h.ev f hf).2.2.2.2.1; omega
  · rw [zcf.1 hf] at h2
    simp [endE] at h2) (fun f hf=>by
  rw [h.canEnd hid] at hf; refine znH ?_; rcases zbF.1 hf with hf | hf
  · have:=h.can f hf; show f.Stamp.Time < 940; omega
  · rw [zcf.1 hf]; show (900:Int) < 940; omega)
 rw [h.canEnd hid,zgz,zgz] at this; exact this
theorem Early.reop (h:Early s l) (post:List zab) (hp:∀ e∈post,e.Kind≠2):(walkS s (canonS l++post)).2=[]:=by
 rw [zt6]
 have key:∀ ev:List zab,(∀ e∈ev,e.Kind≠2)→ev.foldl reopE []=[]:=by
  intro ev
  induction ev with
  | nil=>intro _; rfl
  | cons e r ih=>intro q; rw [zeP,show reopE [] e=[] by unfold reopE; rw [if_neg (q e (by simp))]]; exact ih fun x hx=>q x (by simp [hx])
 refine key _ (fun e he=>?_); rcases zbF.1 he with he | he
 · have:=h.can e he; omega
 · exact hp e he
theorem zsv (s:zay) (a b:List zab) (i:Nat):(walkS s (a++b)).1 i=((walkS s a).1 i).map fun d=>b.foldl (deskE s i) d:=by rw [zoM,zoM,Option.map_map]; congr 1; funext d; rw [zvI]; rfl
theorem ztx (s:zay) (i:Nat) (d:zaf) (id:Int):deskE s i d (endE id)=if id.toNat=i then reinS ⟨900,0,1⟩ d else d:=by unfold deskE endE; rw [if_pos rfl]
theorem zy0 {ds es:Desks} (h:∀ i,(ds i=none∧es i=none)∨∃ d e,ds i=some d∧es i=some e∧d.marks=e.marks∧d.level=e.level) (R:Reop) (n:Nat):zbW ds R n=zbW es R n:=by
 unfold zbW; refine zxf fun i _=>?_
 rcases h i with ⟨h1,h2⟩ | ⟨d,e,h1,h2,h3,h4⟩
 · rw [h1,h2]
 · rw [h1,h2]; simp only; have:countS d R=countS e R:=by rw [ztv,ztv]; unfold zrg keepM; rw [h3,h4]
   rw [this]; unfold zbZ; rw [h4]
theorem zsI {ds es:Desks} (h:∀ i,(ds i=none∧es i=none)∨∃ d e,ds i=some d∧es i=some e∧d.suspensions.length=e.suspensions.length):∀ n,(suspTo ds n).length=(suspTo es n).length
 | 0=>rfl
 | n+1=>by
   rw [zho,zho,zep,zep,zsI h n]; congr 1; rcases h n with ⟨h1,h2⟩ | ⟨d,e,h1,h2,h3⟩
   · rw [h1,h2]
   · rw [h1,h2]; exact h3
theorem reinS_susp (a:zaM) (d:zaf):(reinS a d).suspensions.length=d.suspensions.length:=by
 unfold reinS; split
 · simp
 · rfl
theorem end_fold (h:Early s l) {id:Int} (hid:1≤id∧id≤99):(foldS s (l++[endE id])).Given=(foldS s l).Given∧(foldS s (l++[endE id])).Suspensions.length=(foldS s l).Suspensions.length:=by
 rw [ziX,ziX,h.canEnd hid]; simp only
 have hR:(walkS s (canonS l++[endE id])).2=(walkS s (canonS l)).2:=by have h1:=h.reop [endE id] (by simp [endE]); have h2:=h.reop [] (by simp); rw [zrC] at h2; rw [h1,h2]
 rw [hR]
 have hd:∀ i,((walkS s (canonS l++[endE id])).1 i=none∧(walkS s (canonS l)).1 i=none)∨∃ d e,(walkS s (canonS l++[endE id])).1 i=some d∧(walkS s (canonS l)).1 i=some e∧d.marks=e.marks∧d.level=e.level∧d.suspensions.length=e.suspensions.length:=by
  intro i; rw [zsv]
  cases (walkS s (canonS l)).1 i with
  | none=>exact .inl ⟨rfl,rfl⟩
  | some e =>
    refine .inr ⟨_,e,rfl,rfl,?_⟩; simp only [zeP,List.foldl_nil,ztx]; split
    · exact ⟨zvk _ _,zvj _ _,reinS_susp _ _⟩
    · exact ⟨rfl,rfl,rfl⟩
 constructor
 · rw [zy0 (fun i=>(hd i).imp _root_.id fun ⟨d,e,a,b,c,f,_⟩=>⟨d,e,a,b,c,f⟩)]
 · exact zsI (fun i=>(hd i).imp _root_.id fun ⟨d,e,a,b,_,_,c⟩=>⟨d,e,a,b,c⟩) 100
theorem begin_fold (h:Early s l) {id:Int} (hid:1≤id∧id≤99):foldS s (l++[beginE id])=foldS s l:=by
 rw [ziX,ziX,h.canBegin hid]
 have:walkS s (beginE id :: canonS l)=walkS s (canonS l):=by
  refine zeg (funext fun i=>?_) ?_
  · rw [zoM,zoM]
    cases hs:seats s.Markers i with
    | none=>rfl
    | some d =>
      obtain ⟨m,_,_,rfl⟩:=zp0 _ _ _ hs; simp only [zc1,zeP]; rw [show deskE s i (desk0 m.Level) (beginE id)=desk0 m.Level from ?_]; unfold deskE beginE; rw [if_pos rfl]; split
      · unfold reinS desk0; simp
      · rfl
  · rw [zt6,zt6,zeP]; rfl
 rw [this]
theorem Early.asc (_:Early s l):(canonS l).Pairwise (fun a b=>lessS a.Stamp b.Stamp=true):=zlH l
theorem Early.val (_:Early s l):∀ e∈canonS l,eventB e=true:=zuZ
theorem was_at (h:Early s l) {id:Int} (hid:1≤id∧id≤99) {d:zaf} (hd:(walkS s (canonS l)).1 id.toNat=some d):zeM (foldS s l) id ⟨950,0,0⟩=d.watch.Suspended:=by
 unfold zeM; rw [ziX]; simp only; rw [susp_at h.asc h.val hid hd]; have F:=znE h.asc h.val hd; have K:=zq2 h.ok _ hd
 cases hw:d.watch.Suspended with
 | false=>rw [zmG]; intro y hy; have h1:=F.lift hw y hy; obtain ⟨e,he,hu⟩:=(F.sAt y hy).2.1 h1; unfold suspAt; rw [h1,hu,ziG (a:=⟨950,0,0⟩) (b:=e.Stamp) (by have:=h.can e he; show e.Stamp.Time < 950; omega)]; simp
 | true=>rw [zmI]; have hp:=K.some hw; have hg:d.suspensions[d.suspensions.length - 1]?=some (d.suspensions[d.suspensions.length - 1]'(by omega)):=zaC _; have h1:=(F.lift2 hw _ _ hg).2 (by omega); refine ⟨d.suspensions[d.suspensions.length - 1]'(by omega),zbg _,?_⟩; obtain ⟨e,he,hu⟩:=(F.sAt _ (zbg (show d.suspensions.length - 1 < d.suspensions.length by omega))).1; unfold suspAt; rw [h1,hu,ziG (a:=⟨950,0,0⟩) (b:=e.Stamp) (by have:=h.can e he; show e.Stamp.Time < 950; omega)]; rfl
theorem end_asc (h:Early s l) {id:Int} (hid:1≤id∧id≤99):(canonS l++[endE id]).Pairwise (fun a b=>lessS a.Stamp b.Stamp=true)∧∀ e∈canonS l++[endE id],eventB e=true:=by rw [← h.canEnd hid]; exact ⟨zlH _,zuZ⟩
theorem end_at (_:Early s l) {id:Int} (_:1≤id∧id≤99) {d:zaf} (hd:(walkS s (canonS l)).1 id.toNat=some d):(walkS s (canonS l++[endE id])).1 id.toNat=some (reinS ⟨900,0,1⟩ d):=by rw [zsv,hd,zc1,zeP,List.foldl_nil,ztx,if_pos rfl]
theorem end_free (h:Early s l) {id:Int} (hid:1≤id∧id≤99) {d:zaf} (hd:(walkS s (canonS l)).1 id.toNat=some d):zeM (foldS s (l++[endE id])) id ⟨950,0,0⟩=false:=by
 unfold zeM; rw [ziX,h.canEnd hid]; simp only; obtain ⟨ha,hv⟩:=end_asc h hid; have he:=end_at h hid hd; rw [susp_at ha hv hid he]; have F:=znE ha hv he
 have hw:(reinS ⟨900,0,1⟩ d).watch.Suspended=false:=by
  unfold reinS
  cases q:d.watch.Suspended with
  | true=>rw [if_pos rfl]
  | false=>rw [iNs]; exact q
 rw [zmG]; intro y hy; have h1:=F.lift hw y hy; obtain ⟨e,he,hu⟩:=(F.sAt y hy).2.1 h1; unfold suspAt; rw [h1,hu,ziG (a:=⟨950,0,0⟩) (b:=e.Stamp) ?_]
 · simp
 · rcases zbF.1 he with he | he
   · have:=h.can e he; show e.Stamp.Time < 950; omega
   · rw [zcf.1 he]; show (900:Int) < 950; omega
theorem end_was (h:Early s l) {id:Int} (hid:1≤id∧id≤99) {d:zaf} (hd:(walkS s (canonS l)).1 id.toNat=some d):zeM (foldS s (l++[endE id])) id ⟨899,0,0⟩=d.watch.Suspended:=by
 unfold zeM; rw [ziX,h.canEnd hid]; simp only; obtain ⟨ha,hv⟩:=end_asc h hid; have he:=end_at h hid hd; rw [susp_at ha hv hid he]; have F:=znE h.asc h.val hd; have K:=zq2 h.ok _ hd; unfold reinS
 cases hw:d.watch.Suspended with
 | false=>rw [iNs,zmG]; intro y hy; have h1:=F.lift hw y hy; obtain ⟨e,he,hu⟩:=(F.sAt y hy).2.1 h1; unfold suspAt; rw [h1,hu,ziG (a:=⟨899,0,0⟩) (b:=e.Stamp) (by have:=h.can e he; show e.Stamp.Time < 899; omega)]; simp
 | true =>
   rw [if_pos rfl,zmI]; have hp:=K.some hw; have hlt:d.suspensions.length - 1 < d.suspensions.length:=by omega
   refine ⟨{ (d.suspensions[d.suspensions.length - 1]'hlt) with Lifted:=true,Until:=⟨900,0,1⟩ },?_,?_⟩
   · refine zbP (i:=d.suspensions.length - 1) ?_; rw [zvG,zaC hlt]; simp
   · obtain ⟨e,he,hu⟩:=(F.sAt _ (zbg hlt)).1; unfold suspAt; simp only; rw [hu,ziG (a:=⟨899,0,0⟩) (b:=e.Stamp) (by have:=h.can e he; show e.Stamp.Time < 899; omega)]; decide
def zoG (m:zbw) (id n:Int):Bool:=(zjL m n 0).any fun g=>g.Marker == id && g.Stamp.Time == 940
theorem zu1 {id n:Int} (ps:List Int) {d:zaf} (hid:1≤id∧id≤99)
  (hold:∀ x∈d.marks,x.event.Stamp.Time < 940) {w:Bool} {ds:Desks} {L:List za8}
  (hds:ds id.toNat=some { d with marks:=d.marks++[⟨lateE id n ps,w⟩] }):zoG ⟨isort zca (zbW ds [] 100),L⟩ id n=!w:=by
 have hmem:∀ g,g∈isort zca (zbW ds [] 100)↔g∈zbW ds [] 100:=fun g=>(zid _).mem_iff
 unfold zoG zjL; generalize hd':({ d with marks:=d.marks++[⟨lateE id n ps,w⟩] }:zaf)=d' at hds
 cases w with
 | false =>
   rw [zcx,zmI]; refine ⟨zbZ id.toNat d' (lateE id n ps),zuh.2 ⟨(hmem _).2 (znj.2 ⟨id.toNat,by omega,d',hds,(⟨n,0⟩,lateE id n ps),?_,rfl⟩),by simp [zbZ,lateE]⟩,?_⟩
   · refine zj2 ?_; have hl:zrg d'=zrg d++[lateE id n ps]:=by rw [← hd']; unfold zrg; simp
     rw [ztv,hl,List.filter_append,zvI]
     rw [show [lateE id n ps].filter (keepM d' [])=[lateE id n ps] from by
      refine List.filter_eq_self.2 fun e _=>?_
      unfold keepM reopB
      simp [mfind],zeP,List.foldl_nil]
     exact zjq _ _ _
   · simp only [zbZ,lateE,zbK,beq_iff_eq,and_true]; omega
 | true =>
   rw [zbO,zmG]; intro g hg; obtain ⟨h1,h2⟩:=zuh.1 hg; obtain ⟨i,hi,f,hf,p,hp,rfl⟩:=znj.1 ((hmem g).1 h1); simp only [zbZ,zbK,beq_iff_eq,not_and]; intro q; have:i=id.toNat:=by omega
   subst this; rw [hds] at hf; injection hf with hf; subst hf; obtain ⟨x,x1,x2,x3,_⟩:=countS_mem hp; rw [x2]; rw [← hd'] at x1; rcases zbF.1 x1 with x1 | x1
   · have:=hold x x1; omega
   · rw [zcf.1 x1] at x3; cases x3
theorem late_fits {id:Int} {x:zaN} (hs:zdl s) (hx:x∈s.Scripts) (he:Elig s.Markers id x) (hk:∃ k p,zfd s.Papers x=some (k,p)∧∃ y,p.Parts[0]?=some y∧y.Kind=1∧3≤y.Max):∃ q,fitS s (lateE id x.Number x.Pages)=some q:=by
 obtain ⟨k,p,h1,y,h2,h3,h4⟩:=hk; refine ⟨k,?_⟩; unfold fitS; rw [show zgi s.Scripts (lateE id x.Number x.Pages).Script=some x from zt0 hs.scripts.2.2 hx]; simp only
 have hel:eligB s.Markers (lateE id x.Number x.Pages).Stamp.Source x=true:=by obtain ⟨k,m,q1,q2,q3⟩:=he; unfold eligB; rw [show zlv s.Markers (lateE id x.Number x.Pages).Stamp.Source=some (k,m) from q1]; simp only [mayB,zbK,zvA,bne_iff_ne]; exact ⟨q2,q3⟩
 rw [if_pos hel,h1]; simp only; rw [if_pos (show 0≤(lateE id x.Number x.Pages).Part from by simp [lateE]),show p.Parts[(lateE id x.Number x.Pages).Part.toNat]?=some y from h2]; simp only
 have hpb:permB y (lateE id x.Number x.Pages).Value=true:=by unfold permB; rw [if_neg (show ¬ (lateE id x.Number x.Pages).Value=-1 from by simp [lateE]),iNQ]; rw [decide_eq_true_eq]; show 0≤(1:Int)∧1≤y.Max; omega
 rw [if_pos ⟨h3,hpb,rfl⟩]
theorem zw1 {id n:Int} {ps:List Int} {q:Nat} (hf:fitS s (lateE id n ps)=some q) (hs:seedOf s.Seeds n=none) (d:zaf):deskE s id.toNat d (lateE id n ps)={ d with marks:=d.marks++[⟨lateE id n ps,d.watch.Suspended⟩] }:=by unfold deskE; rw [if_neg (show ¬ (lateE id n ps).Kind=1 from by simp [lateE]),if_pos (show (lateE id n ps).Kind=0∧(lateE id n ps).Stamp.Source.toNat=id.toNat from ⟨rfl,rfl⟩),hf]; simp only; rw [show seedS s (lateE id n ps).Script=none by unfold seedS; rw [show seedOf s.Seeds (lateE id n ps).Script=none from hs]; rfl]
theorem zyx {ev:List zab} {i:Nat} {d:zaf} (hd:(walkS s ev).1 i=some d) (ht:∀ e∈ev,e.Stamp.Time < 940):∀ x∈d.marks,x.event.Stamp.Time < 940:=fun x hx=>by
 have:x.event∈ev.filter (markEv s i):=by rw [← zxD hd]; exact zbC.2 ⟨x,hx,rfl⟩
 exact ht _ (zuh.1 this).1
theorem zAy (h:Early s l) {id:Int} (hid:1≤id∧id≤99) {d:zaf} (hd:(walkS s (canonS l)).1 id.toNat=some d) {x:zaN} (hv:eventB (lateE id x.Number x.Pages)=true) {q:Nat} (hf:fitS s (lateE id x.Number x.Pages)=some q) (hs:seedOf s.Seeds x.Number=none):zoG (foldS s (l++[endE id,lateE id x.Number x.Pages])) id x.Number=true∧zoG (foldS s (l++[lateE id x.Number x.Pages])) id x.Number=!d.watch.Suspended:=by
 constructor
 · rw [ziX,h.canEndLate hid hv]; have hR:=h.reop [endE id,lateE id x.Number x.Pages] (by simp [endE,lateE]); rw [hR]; have he:=end_at h hid hd; refine zu1 x.Pages (w:=false) hid (zyx he (fun e he=>?_)) ?_
   · rcases zbF.1 he with he | he
     · have:=h.can e he; omega
     · rw [zcf.1 he]; show (900:Int) < 940; omega
   · rw [zsv,hd,zc1,zeP,zeP,List.foldl_nil,ztx,if_pos rfl,zw1 hf hs]
     have hw:(reinS ⟨900,0,1⟩ d).watch.Suspended=false:=by
      unfold reinS
      cases q:d.watch.Suspended with
      | true=>rw [if_pos rfl]
      | false=>rw [iNs]; exact q
     rw [hw]
 · rw [ziX,h.canLate hv]; have hR:=h.reop [lateE id x.Number x.Pages] (by simp [lateE]); rw [hR]; refine zu1 x.Pages (w:=d.watch.Suspended) hid (zyx hd (fun e he=>by have:=h.can e he; omega)) ?_; rw [zsv,hd,zc1,zeP,List.foldl_nil,zw1 hf hs]
set_option maxRecDepth 100000
def scr0 (i:Int):zaN:=⟨i,0,i,1,0,[],[-1]⟩
def S0:zay:=⟨[⟨7,-1,1,9,[0]⟩],[scr0 1,scr0 2,scr0 3,scr0 4,scr0 5,scr0 6],[⟨0,0,[⟨1,5,0,0,0,0⟩]⟩],[⟨[[]],[0]⟩],[⟨1,[4]⟩,⟨6,[4]⟩],⟨0,0,1,1⟩⟩
theorem c_setup29:cw zlf [] []=some (zn0 S0):=cw_of 30 (by kernel_rfl)
def at29 (t s v:Int):zab:=⟨⟨t,7,t⟩,0,s,0,v,0,[]⟩
theorem zqW (a b c:Int):cw zgI [I a,I b,I c] []=some (zku (at29 a b c)):=e_law29_at a b c rfl
def l0:List zab:=[at29 9 2 1,at29 10 1 4,at29 11 3 2,at29 12 4 3,at29 13 6 1]
def l1:List zab:=l0++[⟨⟨20,0,0⟩,1,0,0,0,7,[]⟩,at29 21 3 5]
def w0d:Desks×Reop:=walkS S0 (canonS l0)
def znf (i:Nat) (d:zaf) (R:Reop) (l:List zbc):List GTask:=l.filterMap fun x=>if x.void=true∧(mfind ⟨x.event.Script,x.event.Part⟩ (countS d R)).isSome=false then some ⟨x.event.Script,(i:Int)⟩ else none
def zrq (ds:Desks) (R:Reop):Nat→Nat→List GTask
 | _,0=>[]
 | i,n+1=>(match ds i with | some d=>znf i d R d.marks | none=>[])++zrq ds R (i+1) n
theorem ok_S0:zdl S0 where
 markers:=by
  refine ⟨by decide,?_,?_⟩
  · intro m hm; simp only [S0,zcf] at hm; subst hm; refine ⟨⟨by decide,by decide,by decide,by decide,by simp⟩,fun j hj=>by simp at hj⟩
  · intro j hj; simp [S0] at hj
 scripts:=by
  refine ⟨by decide,?_,?_⟩
  · intro x hx; simp only [S0,za1,zcZ,or_false] at hx; rcases hx with rfl | rfl | rfl | rfl | rfl | rfl <;> exact ⟨by decide,by decide,by decide,by decide,by decide,by decide⟩
  · intro j hj; have:j < 5:=by simp [S0] at hj; omega
    match j,this with
    | 0,_ | 1,_ | 2,_ | 3,_ | 4,_=>simp [S0,scr0]
 papers:=by decide
 len:=rfl
 schemes:=by
  intro j p c hp hc
  match j with
  | 0 =>
    simp only [S0,ze5,zat] at hp hc; subst hp hc; refine ⟨⟨by decide,by decide,by decide,?_,by decide⟩,rfl,rfl,?_⟩
    · intro x hx; simp only [zcf] at hx; subst hx; exact ⟨by decide,by decide,by decide,.inl (by decide)⟩
    · intro j x ks k hx hks hk
      match j with
      | 0=>simp only [ze5,zat] at hx hks hk; subst hx hks hk; exact ⟨⟨by simp,fun j hj=>by simp at hj⟩,by decide⟩
      | j+1=>simp at hx
  | j+1=>simp [S0] at hp
 script:=by
  intro x hx; refine ⟨0,⟨0,0,[⟨1,5,0,0,0,0⟩]⟩,⟨[[]],[0]⟩,?_,rfl,?_⟩
  · simp only [S0,za1,zcZ,or_false] at hx; rcases hx with rfl | rfl | rfl | rfl | rfl | rfl <;> rfl
  · have:x.Answers=[-1]:=by simp only [S0,za1,zcZ,or_false] at hx; rcases hx with rfl | rfl | rfl | rfl | rfl | rfl <;> rfl
    rw [this]; refine ⟨rfl,fun j y v hy _ hk=>?_⟩
    match j with
    | 0=>simp only [ze5,zat] at hy; subst hy; exact absurd rfl hk
    | j+1=>simp at hy
 seeds:=by decide
 asc:=by
  intro j hj; have:j < 1:=by simp [S0] at hj; omega
  match j,this with
  | 0,_=>simp [S0]
 seed:=by
  intro x hx; refine ⟨0,⟨0,0,[⟨1,5,0,0,0,0⟩]⟩,?_,?_⟩
  · simp only [S0,za1,zcZ,or_false] at hx; rcases hx with rfl | rfl <;> rfl
  · have:x.Marks=[4]:=by simp only [S0,za1,zcZ,or_false] at hx; rcases hx with rfl | rfl <;> rfl
    rw [this]; refine ⟨rfl,fun j y v hy hv=>?_⟩
    match j with
    | 0=>simp only [ze5,zat] at hy hv; subst hy hv; decide
    | j+1=>simp at hy
 monitor:=⟨by decide,by decide,by decide,by decide⟩
 short:=by intro c hc ks hk; simp only [S0,zcf] at hc; subst hc; simp only [zcf] at hk; subst hk; decide
 short2:=by intro m hm; simp only [S0,zcf] at hm; subst hm; decide
theorem few0:FewEv l0:=few_of (by decide) (by intro e he; simp only [l0,za1,zcZ,or_false] at he; rcases he with rfl | rfl | rfl | rfl | rfl <;> decide)
theorem few1:FewEv l1:=few_of (by decide) (by intro e he; simp only [l1,l0,zbF,za1,zcZ,or_false] at he; rcases he with (rfl | rfl | rfl | rfl | rfl) | rfl | rfl <;> decide)
theorem tasks_ok:zrq w0d.1 w0d.2 0 100=[⟨3,7⟩,⟨4,7⟩]:=by kernel_rfl
theorem sort_ok:cw zfF [.row 1000 2 0 2,.fn zmd []] [(1000,⟨2,zbB,List.map zfx [⟨3,7⟩,⟨4,7⟩],false⟩)]=some (zdQ [⟨3,7⟩,⟨4,7⟩]):=cw_of 30 (by kernel_rfl)
theorem compact_ok:cw zfP [.row 1000 2 0 2] [(1000,⟨2,zbB,List.map zfx [⟨3,7⟩,⟨4,7⟩],false⟩)]=some (zdY (2,[⟨3,7⟩,⟨4,7⟩])):=cw_of 30 (by kernel_rfl)
theorem tasks_len (i:Nat) (d:zaf) (R:Reop) (l:List zbc):(znf i d R l).length≤l.length:=zrA _ _
theorem ret_marks (r1:((List zab)×Int)×(List zab)) (ds:Desks) (R:Reop) (i:Nat) (d:zaf) (hl:d.marks.length≤1000000) {y:AV×Mem} (out:List GTask) (ho:out.length≤1000000)
  (h:zdg r1 (deskL ds,R) (List.map zfx (out++znf i d R d.marks)) (w64 ((i:Int)+1))=some y):zdh r1 (deskL ds,R) i d (countS d R) (List.map zfx out) 0=some y:=by
 have key:∀ (n j:Nat) (o:List GTask),j+n=d.marks.length→o++znf i d R (d.marks.drop j)=out++znf i d R d.marks→o.length≤1000000+j→zdh r1 (deskL ds,R) i d (countS d R) (List.map zfx o) j=some y:=by
  intro n
  induction n with
  | zero=>intro j o hj he hlo; refine zms _ _ _ _ _ _ _ ?_; rw [zap,zaT (by omega)]; rw [zjG (by omega)] at he; simp only [znf,List.filterMap_nil,zrC] at he; rw [he]; exact h
  | succ n ih =>
    intro j o hj he hlo; have hlt:j < d.marks.length:=by omega
    refine zms _ _ _ _ _ _ _ ?_; rw [zap,zaF (by omega),cPQ,za4,zgH,zaC hlt,zaY,w6Q,show ((j:Int)+1)=((j+1:Nat):Int) by omega]; rw [show (AV.agg (zcI.enc ⟨d.marks[j].event.Script,d.marks[j].event.Part⟩))=.agg (zbd ⟨d.marks[j].event.Script,d.marks[j].event.Part⟩) from rfl,zk7]; rw [zf8 hlt] at he; unfold znf at he; rw [List.filterMap_cons] at he
    cases hv:d.marks[j].void with
    | false=>rw [zaw]; rw [if_neg (by rw [hv]; simp)] at he; exact ih (j+1) o (by omega) he (by omega)
    | true =>
      rw [zaI]
      cases hm:(mfind ⟨d.marks[j].event.Script,d.marks[j].event.Part⟩ (countS d R)).isSome with
      | true=>rw [zbO,zaw]; rw [if_neg (by rw [hm]; simp)] at he; exact ih (j+1) o (by omega) he (by omega)
      | false=>rw [zcx,zaI,zan rfl,zan (by simp only [zap]; omega),zan rfl]; rw [if_pos ⟨hv,hm⟩] at he; have:=ih (j+1) (o++[⟨d.marks[j].event.Script,i⟩]) (by omega) (by rw [zgz]; exact he) (by simp; omega); rw [← zel] at this; exact this
 exact key d.marks.length 0 out (by omega) (by rw [zoD]) (by omega)
theorem ret_desks (r1:((List zab)×Int)×(List zab)) (ds:Desks) (R:Reop) (hd:∀ i d,ds i=some d→d.marks.length≤200) {y:AV×Mem} {ts:List GTask}
  (h:zdg r1 (deskL ds,R) (List.map zfx ts) 100=some y):∀ (n i:Nat) (out:List GTask),i+n=100→out++zrq ds R i n=ts→out.length≤200*i→zdg r1 (deskL ds,R) (List.map zfx out) i=some y:=by
 intro n
 induction n with
 | zero =>
   intro i out hi he _; have:i=100:=by omega
   subst this; simp only [zrq,zrC] at he; rw [he]; exact h
 | succ n ih =>
   intro i out hi he hlo; have hlt:i < 100:=by omega
   refine zmr _ _ _ _ ?_; have hget:=zya ds hlt; rw [zaF (by omega),cPQ,zan (show (i:Int) < 100 by omega),za4]; unfold zrq at he
   cases hdi:ds i with
   | none=>rw [hdi] at hget he; rw [zpQ (by simpa [nDp] using hget)]; refine zpH _ _ _ _ ?_; rw [w6Q,show ((i:Int)+1)=((i+1:Nat):Int) by omega]; exact ih (i+1) out (by omega) (by simpa using he) (by omega)
   | some d=>rw [hdi] at hget he; rw [zyc (D:=zeU) (x:=d) (by simpa [nDp] using hget)]; refine zot _ _ _ _ _ ?_; have hc:=zwQ d R (by have:=hd i d hdi; omega); unfold zcW at hc; rw [hc,zhS]; have hml:=hd i d hdi; have htl:=tasks_len i d R d.marks; refine ret_marks r1 ds R i d (by omega) out (by omega) ?_; rw [w6Q,show ((i:Int)+1)=((i+1:Nat):Int) by omega]; exact ih (i+1) _ (by omega) (by rw [zgz]; exact he) (by rw [zep]; omega)
theorem c_ret0:cw zjO [.agg (zau S0),.row 1001 9 0 5] [(1001,⟨9,zac,List.map zaa l0,false⟩)]=some (zj5 (([⟨3,7⟩,⟨4,7⟩],0),l0)):=by
 refine ztA S0 l0 ?_; rw [zpM ok_S0,za0,show ((0:Int) != 0)=false from rfl,zaw]; have hc:=c_canon true few0; rw [show cw zbj [.row 1000 9 0 (List.length (List.map zaa l0))] [(1000,⟨9,zac,List.map zaa l0,false⟩)]=some (zdw ((canonS l0,0),l0)) from hc,zkD]; simp only [show ((0:Int) != 0)=false from rfl,zaw]; rw [c_walk (okRun ok_S0 few0),zny]; refine ret_desks _ _ _ (fun i d hd=>?_) (ts:=[⟨3,7⟩,⟨4,7⟩]) ?_ 100 0 [] (by omega) tasks_ok (by simp)
 · have h1:=(zq2 ok_S0 _ hd).marks; have h2:=(zee l0).length_eq; have h3:=few0.2.1; omega
 · refine zmr _ _ _ _ ?_; rw [zaT (by omega),show List.length (List.map zfx [⟨3,7⟩,⟨4,7⟩])=2 from rfl,sort_ok,ziC,compact_ok,zi5,zan (by simp)]; rfl
def m0:zbw:=⟨[⟨2,0,7,1,1,⟨9,7,9⟩⟩],[⟨7,⟨10,7,10⟩,⟨13,7,13⟩,⟨0,0,0⟩,false,false⟩]⟩
def m1:zbw:=⟨[⟨2,0,7,1,1,⟨9,7,9⟩⟩,⟨3,0,7,1,5,⟨21,7,21⟩⟩],[⟨7,⟨10,7,10⟩,⟨13,7,13⟩,⟨20,0,0⟩,false,true⟩]⟩
theorem fold0:foldS S0 l0=m0:=by kernel_rfl
theorem fold1:foldS S0 l1=m1:=by kernel_rfl
theorem c_sane:cw zma [] []=some (zam true):=by refine zzG ?_; rw [zqW,ze7,zqW,ze7,zqW,ze7,zqW,ze7,zqW,ze7,zan rfl,c_setup29,zkP]; have h0:=zo7 ok_S0 few0; rw [fold0] at h0; refine zh4 (zbx (D:=zb3) (x:=((m0,0),l0)) h0 _) ?_; rw [zkP]; refine zh4 (zbx (D:=zfB) (x:=(([⟨3,7⟩,⟨4,7⟩],0),l0)) c_ret0 _) ?_; rw [zqW,ze7,zan (by rfl),zan (by decide),zan rfl,zkP]; have h1:=zo7 ok_S0 few1; rw [fold1] at h1; refine zh4 (zbx (D:=zb3) (x:=((m1,0),l1)) h1 _) ?_; rw [zwP m1 3 0 (by decide),zk4,zk3 m1 7 _ (by decide),zai,zk3 m1 7 _ (by decide),zai]; rw [show zjL m1 3 0=[⟨3,0,7,1,5,⟨21,7,21⟩⟩] from by decide,show zeM m1 7 ⟨15,0,0⟩=true from by decide,show zeM m1 7 ⟨21,0,0⟩=false from by decide]; simp only [zft,zdX]; simp [m0,m1,zaI,zbL]; rfl
set_option maxRecDepth 20000
theorem zpS {s:zay} (hs:zdl s) {l:List zab} (h:FewEv l):(foldS s l).Given.length≤1000000∧(foldS s l).Suspensions.length≤1000000:=by rw [ziX]; have h1:=zqp s (canonS l) (walkS s (canonS l)).2 100; have h2:=(zee l).length_eq; have h3:=h.2.1; have h4:=zxA hs (canonS l) 100; have h5:=(zid (lt:=zca) (zbW (walkS s (canonS l)).1 (walkS s (canonS l)).2 100)).length_eq; simp only; omega
end Go.Proofs.YtikogkgdkdmljaaGreat
end
