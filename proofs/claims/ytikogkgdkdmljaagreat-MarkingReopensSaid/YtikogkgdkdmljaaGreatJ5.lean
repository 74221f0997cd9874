/- What the log keeps depends on the set of events alone; the reference keeps the same. -/
import Derived.Test.YtikogkgdkdmljaaGreatJ4
import Derived.Test.YtikogkgdkdmljaaGreatAb9
import Derived.OpenShut
import Derived.DataElems
import Derived.ChangeArms
set_option linter.unusedSimpArgs false
set_option linter.unusedVariables false
noncomputable section
namespace Go.Proofs.YtikogkgdkdmljaaGreat
open Go.Ab
set_option maxRecDepth 10000
abbrev idE (e:zab):Int×Int:=(e.Stamp.Source,e.Stamp.Seq)
theorem zja {κ ν:Type} [DecidableEq κ] (k:κ) (v:ν):∀ l:List (κ×ν),mfind k (mput k v l)=some v
 | []=>by simp [mput,mfind]
 | p :: r=>by
   unfold mput; split
   · simp [mfind]
   · rename_i h; unfold mfind; rw [if_neg h]; exact zja k v r
theorem zlj {κ ν:Type} [DecidableEq κ] {k j:κ} (v:ν) (h:j≠k):∀ l:List (κ×ν),mfind j (mput k v l)=mfind j l
 | []=>by simp [mput,mfind,Ne.symm h]
 | p :: r=>by
   unfold mput; split
   · rename_i hp; simp only [mfind]; rw [if_neg (Ne.symm h),if_neg (fun e=>h (by rw [← e,hp]))]
   · simp only [mfind]; rw [zlj v h r]
theorem zoV {κ ν:Type} [DecidableEq κ]:∀ {l:List (κ×ν)} {p:κ×ν},(l.map (·.1)).Nodup→p∈l→mfind p.1 l=some p.2
 | [],_,_,h=>by cases h
 | x :: r,p,hn,h=>by
   obtain ⟨n1,n2⟩:=zfz.1 hn; unfold mfind; rcases zaZ.1 h with e | h
   · rw [e,if_pos rfl]
   · rw [if_neg (fun e=>n1 (zbw.2 ⟨p,h,e.symm⟩))]; exact zoV n2 h
def Said (l:List zab) (i:Nat) (m:zdv):Prop:=∀ k,match mfind k m with
 | none=>∀ j e,j < i→l[j]?=some e→eventB e=true→idE e≠k
 | some g=>g.disputed=true↔∃ j e,j < i∧l[j]?=some e∧eventB e=true∧idE e=k∧l[g.first.toNat]?≠some e
theorem zxb {l:List zab} {m:zdv} {i:Nat} {e:zab} (h:Said l i m) (he:l[i]?=some e):Said l (i+1) (zd3 l m i e):=by
 intro k; have hk:=h k; unfold zd3; by_cases hv:eventB e=true
 case neg =>
  rw [if_neg hv]
  cases hf:mfind k m with
  | none =>
    rw [hf] at hk; intro j f hj hjf hvf; by_cases hji:j=i
    · subst hji; rw [he] at hjf; injection hjf with hjf; subst hjf; exact absurd hvf hv
    · exact hk j f (by omega) hjf hvf
  | some g =>
    rw [hf] at hk; refine hk.trans ⟨fun ⟨j,f,h1,h2⟩=>⟨j,f,by omega,h2⟩,fun ⟨j,f,h1,h2,h3,h4⟩=>⟨j,f,?_,h2,h3,h4⟩⟩; by_cases hji:j=i
    · subst hji; rw [he] at h2; injection h2 with h2; subst h2; exact absurd h3 hv
    · omega
 rw [if_pos hv]; by_cases hke:k=idE e
 · subst hke
   cases hf:mfind (idE e) m with
   | none =>
     simp only; rw [show (e.Stamp.Source,e.Stamp.Seq)=idE e from rfl,zja]; rw [hf] at hk; simp only [zcj,false_iff]
     rintro ⟨j,f,h1,h2,h3,h4,h5⟩
     by_cases hji:j=i
     · subst hji; exact h5 (by rw [show ((j:Int)).toNat=j from rfl]; exact h2)
     · exact hk j f (by omega) h2 h3 h4
   | some g =>
     simp only; rw [show (e.Stamp.Source,e.Stamp.Seq)=idE e from rfl,zja]; rw [hf] at hk; simp only; by_cases hs:l[g.first.toNat]?=some e
     · rw [if_pos hs]; refine hk.trans ⟨fun ⟨j,f,h1,h2⟩=>⟨j,f,by omega,h2⟩,fun ⟨j,f,h1,h2,h3,h4,h5⟩=>⟨j,f,?_,h2,h3,h4,h5⟩⟩; by_cases hji:j=i
       · subst hji; rw [he] at h2; exact absurd (hs.trans h2) h5
       · omega
     · rw [if_neg hs]; exact ⟨fun _=>⟨i,e,by omega,he,hv,rfl,hs⟩,fun _=>rfl⟩
 · have other:∀ v:za7,mfind k (mput (e.Stamp.Source,e.Stamp.Seq) v m)=mfind k m:=fun v=>zlj v hke m
   have goal:∀ m':zdv,mfind k m'=mfind k m→(match mfind k m' with
     | none=>∀ j e,j < i+1→l[j]?=some e→eventB e=true→idE e≠k
     | some g=>g.disputed=true↔∃ j e,j < i+1∧l[j]?=some e∧eventB e=true∧idE e=k∧l[g.first.toNat]?≠some e):=by
    intro m' hm; rw [hm]
    cases hf:mfind k m with
    | none =>
      rw [hf] at hk; intro j f hj hjf hvf; by_cases hji:j=i
      · subst hji; rw [he] at hjf; injection hjf with hjf; subst hjf; exact fun h=>hke h.symm
      · exact hk j f (by omega) hjf hvf
    | some g =>
      rw [hf] at hk; refine hk.trans ⟨fun ⟨j,f,h1,h2⟩=>⟨j,f,by omega,h2⟩,fun ⟨j,f,h1,h2,h3,h4⟩=>⟨j,f,?_,h2,h3,h4⟩⟩; by_cases hji:j=i
      · subst hji; rw [he] at h2; injection h2 with h2; subst h2; exact absurd h4.1.symm hke
      · omega
   cases mfind (e.Stamp.Source,e.Stamp.Seq) m with
   | none=>exact goal _ (other _)
   | some g=>exact goal _ (other _)
theorem zpl {l:List zab}:∀ {r:List zab} {i:Nat} {m:zdv},Said l i m→l.drop i=r→Said l (i+r.length) (zcO l r i m)
 | [],i,m,h,_=>h
 | e :: r,i,m,h,hd=>by
   unfold zcO
   have he:l[i]?=some e:=by have:=congrArg (·[0]?) hd; simpa using this
   have:=zpl (zxb h he) (r:=r) (by
    have:=congrArg (List.drop 1) hd
    simpa [List.drop_drop] using this)
   rw [zf0,show i+(r.length+1)=i+1+r.length by omega]; exact this
theorem zzM (l:List zab):Said l l.length (zbL l):=by have:=zpl (l:=l) (r:=l) (i:=0) (m:=[]) (fun k=>by simp [mfind]) rfl; rw [zcd] at this; exact this
def Stays (l:List zab) (e:zab):Prop:=e∈l∧eventB e=true∧∀ f∈l,eventB f=true→idE f=idE e→f=e
theorem keep_iff {l:List zab} {e:zab}:e∈keepS l↔Stays l e:=by
 have hK:=zoS l; have hS:=zzM l; constructor
 · intro h; obtain ⟨p,hp,hpe⟩:=ztC.1 (show e∈(zbL l).filterMap (pickG l) from h); obtain ⟨e',h1,h2,h3⟩:=hK.2 p hp; unfold pickG at hpe; split at hpe
   · cases hpe
   rename_i hd; rw [h1] at hpe; injection hpe with hpe; subst hpe; refine ⟨zbN h1,h3,fun f hf hvf hid=>?_⟩; have:=hS p.1; rw [zoV hK.1 hp] at this; simp only at this; obtain ⟨j,hj,hjf⟩:=zjq.1 hf; by_cases hfe:l[p.2.first.toNat]?=some f
   · rw [h1] at hfe; injection hfe with hfe; exact hfe.symm
   · exact absurd (this.2 ⟨j,f,hj,by rw [zaE hj,hjf],hvf,by rw [hid]; exact h2,hfe⟩) hd
 · rintro ⟨h1,h2,h3⟩
   obtain ⟨j,hj,hje⟩:=zjq.1 h1; have hje':l[j]?=some e:=by rw [zaE hj,hje]
   have:=hS (idE e)
   cases hf:mfind (idE e) (zbL l) with
   | none=>rw [hf] at this; exact absurd rfl (this j e hj hje' h2)
   | some g =>
     rw [hf] at this; simp only at this; have hp:=zjQ hf; obtain ⟨e',q1,q2,q3⟩:=hK.2 _ hp; have he':e'=e:=h3 e' (zbN q1) q3 q2; subst he'; show e'∈(zbL l).filterMap (pickG l); refine ztC.2 ⟨_,hp,?_⟩; unfold pickG; rw [if_neg]
     · exact q1
     · intro hd; obtain ⟨i,f,r1,r2,r3,r4,r5⟩:=this.1 hd; have:=h3 f (zbN r2) r3 r4; subst this; exact r5 q1
theorem zju {l:List zab} {e:zab}:e∈canonS l↔Stays l e:=by rw [(zeg l).mem_iff,keep_iff]
def deskE (s:zaA) (i:Nat) (d:zah) (e:zab):zah:=
 if e.Kind=1 then (if e.Marker.toNat=i then reinS e.Stamp d else d)
 else if e.Kind=0∧e.Stamp.Source.toNat=i then (match fitS s e with
  | some q=>(match seedS s e.Script,s.Papers[q]? with
    | some sd,some p=>noteS s p sd e d
    | none,_=>{ d with marks:=d.marks++[⟨e,d.watch.Suspended⟩] }
    | _,_=>d)
  | none=>d)
 else d
def reopE (R:Reop) (e:zab):Reop:=if e.Kind=2 then mput ⟨e.Script,e.Part⟩ e.Stamp R else R
theorem evS_fst (s:zaA) (st:Desks×Reop) (e:zab) (i:Nat):(evS s st e).1 i=(st.1 i).map (fun d=>deskE s i d e):=by
 have idm:∀ (f:zah→zah),(∀ d,f d=d)→st.1 i=(st.1 i).map f:=fun f h=>by
  cases st.1 i with
  | none=>rfl
  | some d=>simp [h d]
 by_cases k1:e.Kind=1
 · have hd:∀ d,deskE s i d e=if e.Marker.toNat=i then reinS e.Stamp d else d:=fun d=>by unfold deskE; rw [if_pos k1]
   unfold evS; rw [if_pos k1]; by_cases hi:e.Marker.toNat=i
   · simp only [hd,hi,if_true]
     cases h:st.1 i with
     | none=>simp [h]
     | some d=>simp [upd]
   · simp only [hd,hi,if_false]
     cases h:st.1 e.Marker.toNat with
     | none=>exact idm _ fun d=>rfl
     | some d0=>simp only [upd]; rw [if_neg (show ¬ i=e.Marker.toNat from fun h=>hi h.symm)]; exact idm _ fun d=>rfl
 by_cases k0:e.Kind=0
 case neg =>
  have hd:∀ d,deskE s i d e=d:=fun d=>by unfold deskE; rw [if_neg k1,if_neg (fun h=>k0 h.1)]
  have:(evS s st e).1=st.1:=by
   unfold evS; rw [if_neg k1]; split
   · rfl
   · rfl
  rw [this]; exact idm _ hd
 have k2:¬ e.Kind=2:=by omega
 unfold evS; rw [if_neg k1,if_neg k2,if_pos k0]; by_cases hi:e.Stamp.Source.toNat=i
 · have hd:∀ d,deskE s i d e=(match fitS s e with
    | some q=>(match seedS s e.Script,s.Papers[q]? with
      | some sd,some p=>noteS s p sd e d
      | none,_=>{ d with marks:=d.marks++[⟨e,d.watch.Suspended⟩] }
      | _,_=>d)
    | none=>d):=fun d=>by unfold deskE; rw [if_neg k1,if_pos ⟨k0,hi⟩]
   simp only [hd,hi]
   cases h:st.1 i with
   | none=>simp [h]
   | some d =>
     cases hf:fitS s e with
     | none=>simp [h]
     | some q =>
       cases hs:seedS s e.Script with
       | none=>simp [upd]
       | some sd =>
         cases hp:s.Papers[q]? with
         | none=>simp [h,hp]
         | some p=>simp [upd,hp]
 · have hd:∀ d,deskE s i d e=d:=fun d=>by unfold deskE; rw [if_neg k1,if_neg (fun h=>hi h.2)]
   rw [show (fun d=>deskE s i d e)=id from funext hd,Option.map_id]
   cases h:st.1 e.Stamp.Source.toNat with
   | none=>rfl
   | some d0 =>
     cases hf:fitS s e with
     | none=>rfl
     | some q =>
       cases hs:seedS s e.Script with
       | none=>simp only [upd]; rw [if_neg (show ¬ i=e.Stamp.Source.toNat from fun h=>hi h.symm)]; rfl
       | some sd =>
         cases hp:s.Papers[q]? with
         | none=>simp only [hp]; rfl
         | some p=>simp only [hp,upd]; rw [if_neg (show ¬ i=e.Stamp.Source.toNat from fun h=>hi h.symm)]; rfl
theorem evS_snd (s:zaA) (st:Desks×Reop) (e:zab):(evS s st e).2=reopE st.2 e:=by
 unfold reopE; by_cases k1:e.Kind=1
 · rw [iNQ]; unfold evS; rw [if_pos k1]; split <;> rfl
 by_cases k2:e.Kind=2
 · rw [if_pos k2]; unfold evS; rw [if_neg k1,if_pos k2]
 rw [if_neg k2]; unfold evS; rw [if_neg k1,if_neg k2]; split
 · split
   · split <;> rfl
   · rfl
 · rfl
theorem walk_fst (s:zaA):∀ (ev:List zab) (st:Desks×Reop) (i:Nat),(ev.foldl (evS s) st).1 i=(st.1 i).map (fun d=>ev.foldl (deskE s i) d)
 | [],st,i=>by simp
 | e :: r,st,i=>by rw [zhs,walk_fst s r (evS s st e) i,evS_fst,Option.map_map]; rfl
theorem walk_snd (s:zaA):∀ (ev:List zab) (st:Desks×Reop),(ev.foldl (evS s) st).2=ev.foldl reopE st.2
 | [],st=>rfl
 | e :: r,st=>by rw [zhs,walk_snd s r (evS s st e),evS_snd]; rfl
theorem walk_at (s:zaA) (ev:List zab) (i:Nat):(walkS s ev).1 i=(seats s.Markers i).map (fun d=>ev.foldl (deskE s i) d):=walk_fst s ev _ i
theorem zxY (s:zaA) (ev:List zab):(walkS s ev).2=ev.foldl reopE []:=walk_snd s ev _
theorem zsP (l:List zab):(canonS l).Pairwise (fun a b=>lessS a.Stamp b.Stamp=true):=by
 have h1:=zsQ l
 have h2:(canonS l).Pairwise (fun a b=>idE a≠idE b):=by refine (List.Perm.pairwise_iff (fun {a b} h=>(Ne.symm h:_)) (zeg l)).2 ?_; exact keep_ids l
 refine (h1.and h2).imp ?_; intro a b ⟨q1,q2⟩
 cases h:lessS a.Stamp b.Stamp with
 | true=>rfl
 | false=>exact absurd (by unfold idE; rw [zvu h q1]) q2
theorem lessS_tr {a b c:zaL} (h1:lessS a b=true) (h2:lessS b c=true):lessS a c=true:=by
 unfold lessS at *
 grind
theorem zy3 (a:zaL):lessS a a=false:=by unfold lessS; simp
set_option maxRecDepth 20000
theorem few_of {l:List zab} (h:l.length < 200) (hp:∀ e∈l,e.Pages.length≤1000000):FewEv l:=
 ⟨by omega,by
  have h1:=zwx l; have h2:(keepS l).length≤(zbL l).length:=zq0 _ _
  omega,hp⟩
def zxo (m:zbU) (sc pa:Int):List zbp:=m.Given.filter fun g=>g.Script == sc && g.Part == pa
theorem c_Counting (m:zbU) (sc pa:Int) (hl:m.Given.length≤1000000):cw zjA [.agg (zc4 m),I sc,I pa] []=some (zgO (zxo m sc pa)):=by
 refine zsV m sc pa ?_
 have key:∀ (n i:Nat) (out:List zbp),i+n=m.Given.length→out.length≤i→zdQ m sc pa (List.map za1 out) i=some (zgO (out++(m.Given.drop i).filter fun g=>g.Script == sc && g.Part == pa)):=by
  intro n
  induction n with
  | zero=>intro i out hi ho; refine zmd _ _ _ _ _ ?_; rw [zat,zaU (by omega),zap rfl,zhQ (by omega)]; simp; rfl
  | succ n ih =>
    intro i out hi ho; have hlt:i < m.Given.length:=by omega
    refine zmd _ _ _ _ _ ?_; rw [zat,zaH (by omega),cPQ,zbg,zjw,zaE hlt,za9,w6Q,show ((i:Int)+1)=((i+1:Nat):Int) by omega,zfG hlt,zhR]
    cases h1:(m.Given[i].Script == sc) with
    | false=>rw [zaB,zjp,iNs]; exact ih (i+1) out (by omega) (by omega)
    | true =>
      cases h2:(m.Given[i].Part == pa) with
      | false=>rw [zaM,zaB,zow,iNs]; exact ih (i+1) out (by omega) (by omega)
      | true=>rw [zaM,zaM,zov,if_pos rfl,zap rfl,zap (by simp only [zat]; omega),zap rfl,zdg za1]; have:=ih (i+1) (out++[m.Given[i]]) (by omega) (by simp; omega); rw [ziD] at this; exact this
 have:=key m.Given.length 0 [] (by omega) (by simp); rw [zoe,List.nil_append] at this; exact this
def suspB (id:Int) (a:zaL) (x:zbf):Bool:=x.Marker == id && !lessS a x.At && (!x.Lifted || lessS a x.Until)
def zl8 (m:zbU) (id:Int) (a:zaL):Bool:=m.Suspensions.any (suspB id a)
theorem zr2 (x:zbf) (id:Int) (a:zaL):cw zcl [.agg (zag x),.fp [I id],.fp [I a.Time,I a.Source,I a.Seq]] []=some (zan (suspB id a x)):=by
 refine zqx x id a ?_; rw [zqq,zaX,cmpS_le,zqq,zaX,zoJ]; unfold suspB
 cases (x.Marker == id) with
 | false=>rfl
 | true =>
   cases lessS a x.At with
   | true=>rfl
   | false=>cases x.Lifted <;> rfl
theorem c_idxS (l:List zbf) (id:Int) (a:zaL) (hl:l.length≤1000000):cw zcw [.sl 12 (List.map zag l),.fn zcl [.fp [I id],.fp [I a.Time,I a.Source,I a.Seq]]] []=some (zbe (match fnd (suspB id a) 0 l with | some (i,_)=>(i:Int) | none=>-1)):=by
 refine zf6 l id a ?_; refine zh0 l (suspB id a) (fun i=>zbY l id a i) (fun o=>zbe (match o with | some (i,_)=>(i:Int) | none=>-1)) ?_ ?_ ?_
 · exact zcp _ _ _ _ (by simp (disch:=omega) only [zat,zaU]; rfl)
 · intro i hi h; refine zcp _ _ _ _ ?_; simp (disch:=omega) only [zat,zaH,zap,zbg,zfK,zaE hi,za9,zr2,zam]; rw [h,zaM]; rfl
 · intro i hi y h hk; refine zcp _ _ _ _ ?_; simp (disch:=omega) only [zat,zaH,zap,zbg,zfK,zaE hi,za9,zr2,zam]; rw [h,zaB,w6Q]; exact hk
theorem zuk (m:zbU) (id:Int) (a:zaL) (hl:m.Suspensions.length≤1000000):cw zgf [.agg (zc4 m),I id,.agg (zbB a)] []=some (zan (zl8 m id a)):=by
 refine zsn m id a ?_; rw [zfJ m.Suspensions id a (y:=zan (zl8 m id a)) ?_,zam]
 · rfl
 · rw [c_idxS _ _ _ hl,zaX]; unfold zl8; rw [← fnd_any]
   cases fnd (suspB id a) 0 m.Suspensions with
   | none=>rfl
   | some q=>simp; rfl
structure FairD (i:Nat) (pre:List zab) (d:zah):Prop where
 mrk:∀ x∈d.marks,x.event∈pre
 sAt:∀ y∈d.suspensions,(∃ e∈pre,y.At=e.Stamp)∧(y.Lifted=true→∃ e∈pre,y.Until=e.Stamp)∧y.Marker=(i:Int)
 lift:d.watch.Suspended=false→∀ y∈d.suspensions,y.Lifted=true
 lift2:d.watch.Suspended=true→∀ (k:Nat) (y:zbf),d.suspensions[k]?=some y→(k+1≠d.suspensions.length→y.Lifted=true)∧(k+1=d.suspensions.length→y.Lifted=false)
 out:∀ x∈d.marks,x.void=false→∀ y∈d.suspensions,lessS x.event.Stamp y.At=true∨(y.Lifted=true∧lessS x.event.Stamp y.Until=false)
 bad:∀ x∈d.marks,x.void=false→∀ y∈d.suspensions,y.First=false→lessS y.Good x.event.Stamp=true→lessS y.At x.event.Stamp=true
 per:∀ (k:Nat) (x:zba),d.marks[k]?=some x→(k:Int) < d.period→lessS d.started x.event.Stamp=false
 st:d.period≤0∨∃ e∈pre,d.started=e.Stamp
 good:d.some=true→d.period≤0∨lessS d.started d.good=true
 pos:d.period≤(d.marks.length:Int)
theorem FairD.mono {i pre d} (h:FairD i pre d) (e:zab):FairD i (pre++[e]) d:=by
 have up:∀ {f:zab},f∈pre→f∈pre++[e]:=fun h=>zqf _ h
 refine ⟨fun x hx=>up (h.mrk x hx),fun y hy=>?_,h.lift,h.lift2,h.out,h.bad,h.per,?_,h.good,h.pos⟩
 · obtain ⟨⟨f,f1,f2⟩,g,m⟩:=h.sAt y hy; exact ⟨⟨f,up f1,f2⟩,fun hl=>by obtain ⟨q,q1,q2⟩:=g hl; exact ⟨q,up q1,q2⟩,m⟩
 · rcases h.st with q | ⟨f,f1,f2⟩
   · exact .inl q
   · exact .inr ⟨f,up f1,f2⟩
theorem FairD.rein {i pre d} (h:FairD i pre d) {e:zab} (hlt:∀ f∈pre,lessS f.Stamp e.Stamp=true):FairD i (pre++[e]) (reinS e.Stamp d):=by
 unfold reinS; split
 case isFalse=>exact h.mono e
 rename_i hs; have h':=h.mono e
 have mem:∀ y'∈d.suspensions.modify (d.suspensions.length - 1) (fun x=>{ x with Lifted:=true,Until:=e.Stamp }),∃ y∈d.suspensions,(y'={ y with Lifted:=true,Until:=e.Stamp }∧y.Lifted=false)∨(y'=y∧y.Lifted=true):=by
  intro y' hy; obtain ⟨k,hk⟩:=aLiAs63 hy; rw [List.getElem?_modify] at hk
  cases hg:d.suspensions[k]? with
  | none=>rw [hg] at hk; simp at hk
  | some y =>
    rw [hg] at hk; have hlen:k < d.suspensions.length:=(zbs.1 hg).1; refine ⟨y,zbN hg,?_⟩; obtain ⟨q1,q2⟩:=h.lift2 hs k y hg; by_cases hl:d.suspensions.length - 1=k
    · left; exact ⟨by simpa [hl,eq_comm] using hk,q2 (by omega)⟩
    · right; exact ⟨by simpa [hl,eq_comm] using hk,q1 (by omega)⟩
 refine ⟨h'.mrk,fun y' hy=>?_,fun _ y' hy=>?_,fun hh=>absurd hh (by simp),fun x hx hv y' hy=>?_,fun x hx hv y' hy hf hg=>?_,fun k x hk _=>?_,.inr ⟨e,by simp,rfl⟩,fun hh=>absurd hh (by simp),by simp⟩
 · obtain ⟨y,y1,y2⟩:=mem y' hy; obtain ⟨a1,a2,a3⟩:=h'.sAt y y1; rcases y2 with ⟨rfl,_⟩ | ⟨rfl,_⟩
   · exact ⟨a1,fun _=>⟨e,by simp,rfl⟩,a3⟩
   · exact ⟨a1,a2,a3⟩
 · obtain ⟨y,y1,y2⟩:=mem y' hy; rcases y2 with ⟨rfl,_⟩ | ⟨rfl,q⟩
   · rfl
   · exact q
 · obtain ⟨y,y1,y2⟩:=mem y' hy; rcases y2 with ⟨rfl,q⟩ | ⟨rfl,_⟩
   · rcases h.out x hx hv y y1 with r | ⟨r,_⟩
     · exact .inl r
     · rw [q] at r; cases r
   · exact h.out x hx hv _ y1
 · obtain ⟨y,y1,y2⟩:=mem y' hy; rcases y2 with ⟨rfl,_⟩ | ⟨rfl,_⟩
   · exact h.bad x hx hv y y1 hf hg
   · exact h.bad x hx hv _ y1 hf hg
 · exact zg7 (hlt _ (h.mrk x (zbN hk)))
theorem FairD.app {i pre d} (h:FairD i pre d) {e:zab} (hlt:∀ f∈pre,lessS f.Stamp e.Stamp=true):FairD i (pre++[e]) { d with marks:=d.marks++[⟨e,d.watch.Suspended⟩] }:=by
 have h':=h.mono e; refine ⟨fun x hx=>?_,h'.sAt,h.lift,h.lift2,fun x hx hv y hy=>?_,fun x hx hv y hy hf hg=>?_,fun k x hk hp=>?_,h'.st,h.good,?_⟩
 · rcases zbO.1 hx with hx | hx
   · exact h'.mrk x hx
   · rw [zcB.1 hx]; simp
 · rcases zbO.1 hx with hx | hx
   · exact h.out x hx hv y hy
   · rw [zcB.1 hx] at hv ⊢; have hl:=h.lift hv y hy; obtain ⟨f,f1,f2⟩:=(h.sAt y hy).2.1 hl; exact .inr ⟨hl,by rw [f2]; exact zg7 (hlt f f1)⟩
 · rcases zbO.1 hx with hx | hx
   · exact h.bad x hx hv y hy hf hg
   · rw [zcB.1 hx]; obtain ⟨f,f1,f2⟩:=(h.sAt y hy).1; rw [f2]; exact hlt f f1
 · have hp':(k:Int) < d.period:=hp; have:=h.pos; rw [zmr (by omega)] at hk; exact h.per k x hk hp'
 · have:=h.pos; simp only [zfy,zuS]; omega
theorem FairD.susp {i pre d} (h:FairD i pre d) {e:zab} (hlt:∀ f∈pre,lessS f.Stamp e.Stamp=true) (hw:d.watch.Suspended=false) {w:zcR} (hn:w.Suspended=true) (no:List (zao×Int)) {id:Int} (hid:id=(i:Int)):FairD i (pre++[e]) (suspS id e.Stamp { d with noted:=no,watch:=w }):=by
 have h':=h.mono e; subst hid; unfold suspS; simp only; generalize hg:(if d.some then d.good else d.started)=g
 have mem:∀ (k:Nat) (x':zba),(d.marks.mapIdx (voidIf d.period (!d.some) g))[k]?=some x'→∃ x,d.marks[k]?=some x∧x'.event=x.event∧(x'.void=false→x.void=false∧¬ (d.period≤k∧(!d.some || lessS g x.event.Stamp)=true)):=by
  intro k x' hk; rw [zjs] at hk
  cases hm:d.marks[k]? with
  | none=>rw [hm] at hk; cases hk
  | some x =>
    rw [hm] at hk; injection hk with hk; refine ⟨x,rfl,by rw [← hk,ztt],fun hv=>?_⟩; rw [← hk] at hv; unfold voidIf at hv; split at hv
    · cases hv
    · rename_i q; exact ⟨hv,q⟩
 have mem':∀ x'∈d.marks.mapIdx (voidIf d.period (!d.some) g),∃ (k:Nat) (x:zba),d.marks[k]?=some x∧x'.event=x.event∧(x'.void=false→x.void=false∧¬ (d.period≤k∧(!d.some || lessS g x.event.Stamp)=true)):=fun x' hx=>by obtain ⟨k,hk⟩:=aLiAs63 hx; obtain ⟨x,q⟩:=mem k x' hk; exact ⟨k,x,q⟩
 refine ⟨fun x' hx=>?_,fun y hy=>?_,fun hh=>?_,fun _ k y hk=>?_,fun x' hx hv y hy=>?_,fun x' hx hv y hy hf hgd=>?_,fun k x' hk hp=>?_,h'.st,h.good,?_⟩
 · obtain ⟨k,x,q1,q2,_⟩:=mem' x' hx; rw [q2]; exact h'.mrk x (zbN q1)
 · rcases zbO.1 hy with hy | hy
   · exact h'.sAt y hy
   · rw [zcB.1 hy]; exact ⟨⟨e,by simp,rfl⟩,fun hh=>absurd hh (by simp),rfl⟩
 · rw [hn] at hh; cases hh
 · rw [zfy,zuS]; by_cases hk':k < d.suspensions.length
   · rw [zmr hk'] at hk; exact ⟨fun _=>h.lift hw y (zbN hk),fun q=>absurd q (by omega)⟩
   · rw [List.getElem?_append_right (by omega)] at hk
     have:k - d.suspensions.length=0:=by have:=(zbs.1 hk).1; simp at this; omega
     rw [this] at hk; simp only [ze3,zas] at hk; exact ⟨fun q=>absurd (by omega) q,fun _=>by rw [← hk]⟩
 · obtain ⟨k,x,q1,q2,q3⟩:=mem' x' hx; have hx0:=zbN q1; rw [q2]; rcases zbO.1 hy with hy | hy
   · exact h.out x hx0 (q3 hv).1 y hy
   · rw [zcB.1 hy]; exact .inl (hlt _ (h.mrk x hx0))
 · obtain ⟨k,x,q1,q2,q3⟩:=mem' x' hx; have hx0:=zbN q1; rw [q2] at hgd ⊢; rcases zbO.1 hy with hy | hy
   · exact h.bad x hx0 (q3 hv).1 y hy hf hgd
   · rw [zcB.1 hy] at hf hgd; simp only at hf hgd; exfalso; have hs:d.some=true:=by simpa using hf
     have hk:¬ d.period≤(k:Int):=fun hk=>(q3 hv).2 ⟨hk,by simp only [hgd,Bool.or_true]⟩
     have hp:=h.per k x q1 (by omega); rw [hs,if_pos rfl] at hg; rw [← hg] at hgd; rcases h.good hs with r | r
     · omega
     · rw [lessS_tr r hgd] at hp; cases hp
 · obtain ⟨x,q1,q2,_⟩:=mem k x' hk; rw [q2]; exact h.per k x q1 hp
 · have:=h.pos; simpa using this
theorem FairD.note {i pre d} (h:FairD i pre d) {e:zab} (hlt:∀ f∈pre,lessS f.Stamp e.Stamp=true) (s:zaA) (p:zaD) (sd:GSeed) (hid:e.Stamp.Source=(i:Int)):FairD i (pre++[e]) (noteS s p sd e d):=by
 have h':=h.mono e; unfold noteS; split
 · exact h'
 · simp only; split
   · exact ⟨h'.mrk,h'.sAt,h'.lift,h'.lift2,h'.out,h'.bad,h'.per,h'.st,h'.good,h'.pos⟩
   · split
     · exact ⟨h'.mrk,h'.sAt,h'.lift,h'.lift2,h'.out,h'.bad,h'.per,h'.st,h'.good,h'.pos⟩
     · rename_i hw; have hw:d.watch.Suspended=false:=by simpa using hw
       split
       · rename_i hn; exact h.susp hlt hw hn _ hid
       · rename_i hn; split
         · refine ⟨h'.mrk,h'.sAt,fun _=>h'.lift hw,fun q=>absurd q hn,h'.out,h'.bad,h'.per,h'.st,fun _=>?_,h'.pos⟩; rcases h.st with q | ⟨f,f1,f2⟩
           · exact .inl q
           · right; simp only; rw [f2]; exact hlt f f1
         · exact ⟨h'.mrk,h'.sAt,fun _=>h'.lift hw,fun q=>absurd q hn,h'.out,h'.bad,h'.per,h'.st,h'.good,h'.pos⟩
theorem zyT (i:Nat) (d:zah) (R:Reop):((countS d R).map fun p=>zbP i d p.2).Nodup:=by obtain ⟨k1,k2⟩:=zoK d R; generalize countS d R=m at k1 k2; unfold List.Nodup at k1 ⊢; rw [zu0] at k1 ⊢; refine zu1 ?_ k1; intro p q hp hq hne he; unfold zbP at he; injection he with e1 e2; exact hne (by rw [k2 p hp,k2 q hq,e1,e2])
theorem znz (ds:Desks) (R:Reop):∀ n,(zbQ ds R n).Nodup
 | 0=>by simp [zbQ]
 | n+1=>by
   rw [zjH]; refine List.nodup_append.2 ⟨znz ds R n,?_,?_⟩
   · cases ds n with
     | none=>exact List.nodup_nil
     | some d=>exact zyT n d R
   · intro a ha b hb hab; subst hab; obtain ⟨i,hi,d,_,p,_,rfl⟩:=zkT.1 ha
     cases hd:ds n with
     | none=>rw [hd] at hb; cases hb
     | some f=>rw [hd] at hb; obtain ⟨q,_,hq⟩:=zbw.1 hb; unfold zbP at hq; injection hq with _ _ h3; omega
theorem zpI (s:zaA) (i:Nat) (p:zab→Bool):∀ (ev:List zab) (d:zah),(∀ e∈ev,p e=false→∀ d,deskE s i d e=d)→(ev.filter p).foldl (deskE s i) d=ev.foldl (deskE s i) d
 | [],d,_=>rfl
 | e :: r,d,h=>by
   rw [zhR]; split
   · exact zpI s i p r _ (fun x hx=>h x (by simp [hx]))
   · rename_i hp; rw [zhs,h e (by simp) (by simpa using hp)]; exact zpI s i p r d (fun x hx=>h x (by simp [hx]))
theorem zy2 (l:List zbp) (p:zbp→Bool) (hi:∀ a∈l,∀ b∈l,a.Script=b.Script→a.Part=b.Part→a.Marker=b.Marker→a=b):isort zbE (l.filter p)=(isort zbE l).filter p:=by have srt:∀ l,(isort zbE l).Pairwise (fun a b=>zbE b a=false):=zjJ (lt:=zbE) (fun _ _ _ h1 h2=>zkd h1 h2) (fun _ _ h=>zny h); refine zgu (lt:=zbE) ((zdx _).trans ((zdx l).filter p).symm) (srt _) ((srt l).filter p) ?_; intro a ha b hb h1 h2; have q:=zrv h1 h2; have ma:=(zlu.1 ((zdx _).mem_iff.1 ha)).1; have mb:=(zlu.1 ((zdx _).mem_iff.1 hb)).1; exact hi a ma b mb q.1 q.2.1 q.2.2
theorem zxB {κ ν:Type} [DecidableEq κ] (key:zab→κ) (val:zab→ν) (k:κ):∀ (l:List zab) (m:List (κ×ν)),mfind k (l.foldl (fun m e=>mput (key e) (val e) m) m)=match (l.filter (fun e=>decide (key e=k))).getLast? with
  | some e=>some (val e)
  | none=>mfind k m
 | [],m=>rfl
 | e :: r,m=>by
   rw [zhs,zxB key val k r]; rw [zhR]; by_cases h:key e=k
   · rw [if_pos (by simpa using h),List.getLast?_cons,h,zja]; cases (r.filter (fun e=>decide (key e=k))).getLast? <;> rfl
   · rw [if_neg (by simpa using h),zlj _ (fun q=>h q.symm)]
theorem zwN:∀ {ev:List zab} (R:Reop),(∀ e∈ev,e.Kind=0)→ev.foldl reopE R=R
 | [],R,_=>rfl
 | e :: r,R,h=>by rw [zhs,show reopE R e=R by unfold reopE; rw [if_neg (by have:=h e (by simp); omega)]]; exact zwN R (fun x hx=>h x (by simp [hx]))
def keepM (d:zah) (R:Reop) (e:zab):Bool:=!(decide (d.level < 2) && reopB R e)
def zkg (d:zah):List zab:=(d.marks.filter fun x=>!x.void).map (·.event)
theorem countS_eq (d:zah) (R:Reop):countS d R=((zkg d).filter (keepM d R)).foldl (fun m e=>mput (⟨e.Script,e.Part⟩:zao) e m) []:=by
 have key:∀ (l:List zba) (m:Counts),l.foldl (zdF d R) m=(((l.filter fun x=>!x.void).map (·.event)).filter (keepM d R)).foldl (fun m e=>mput (⟨e.Script,e.Part⟩:zao) e m) m:=by
  intro l
  induction l with
  | nil=>intro m; rfl
  | cons x r ih =>
    intro m; rw [zhs,ih]; unfold zdF
    cases hv:x.void with
    | true=>rw [if_pos rfl,zhR,if_neg (show ¬ (!x.void)=true by rw [hv]; simp)]
    | false =>
      rw [iNs,zhR,if_pos (show (!x.void)=true by rw [hv]; rfl),zck,zhR]; by_cases hk:d.level < 2∧reopB R x.event=true
      · rw [if_pos hk,if_neg (by unfold keepM; simp [hk.1,hk.2])]
      · rw [if_neg hk,if_pos,zhs]; unfold keepM; simp only [zqg,Bool.and_eq_false_iff,decide_eq_false_iff_not]; by_cases h2:d.level < 2
        · right; simpa using fun h=>hk ⟨h2,h⟩
        · left; exact h2
 exact key d.marks []
theorem last_up {p:zab→Bool} (l:List zab) (h:l.Pairwise (fun a b=>p a=true→p b=true)):(l.filter p).getLast?=l.getLast?.filter p:=by
 rcases List.eq_nil_or_concat l with rfl | ⟨r,e,rfl⟩
 · rfl
 rw [List.concat_eq_append] at h ⊢; rw [List.filter_append,List.getLast?_append,List.getLast?_append]; obtain ⟨_,_,h3⟩:=List.pairwise_append.1 h
 cases hp:p e with
 | true=>simp [hp,Option.filter]
 | false =>
   have:r.filter p=[]:=List.filter_eq_nil_iff.2 fun x hx q=>by have:=h3 x hx e (by simp) q; rw [hp] at this; cases this
   simp [hp,this,Option.filter]
theorem count_find {d:zah} (ha:(zkg d).Pairwise (fun a b=>lessS a.Stamp b.Stamp=true)) (R:Reop) (k:zao):mfind k (countS d R)=(mfind k (countS d [])).filter (keepM d R):=by
 have e0:∀ R,mfind k (countS d R)=(((zkg d).filter (keepM d R)).filter (fun e=>decide ((⟨e.Script,e.Part⟩:zao)=k))).getLast?:=by intro R; rw [countS_eq,zxB (fun e=>(⟨e.Script,e.Part⟩:zao)) (fun e=>e)]; cases (((zkg d).filter (keepM d R)).filter (fun e=>decide ((⟨e.Script,e.Part⟩:zao)=k))).getLast? <;> rfl
 have e1:(zkg d).filter (keepM d [])=zkg d:=List.filter_eq_self.2 fun e _=>by unfold keepM reopB; simp [mfind]
 rw [e0 R,e0 [],e1,aLiAs97]; rw [show (fun e=>decide ((⟨e.Script,e.Part⟩:zao)=k) && keepM d R e)=(fun e=>keepM d R e && decide ((⟨e.Script,e.Part⟩:zao)=k)) from funext fun e=>Bool.and_comm _ _,← aLiAs97]; refine last_up _ ?_; refine zu1 ?_ (ha.filter _); intro a b hka hkb hlt hp; have q1:=(zlu.1 hka).2; have q2:=(zlu.1 hkb).2; simp only [decide_eq_true_eq] at q1 q2; have q3:(⟨a.Script,a.Part⟩:zao)=⟨b.Script,b.Part⟩:=q1.trans q2.symm; injection q3 with q3 q4; unfold keepM at hp ⊢; simp only [zqg,Bool.and_eq_false_iff,decide_eq_false_iff_not] at hp ⊢; rcases hp with hp | hp
 · exact .inl hp
 · right; unfold reopB at hp ⊢; rw [q3,q4] at hp; simp only [zuY] at hp ⊢
   have mono:∀ o:Option zaL,(match o with | some x=>lessS a.Stamp x | none=>false)=false→(match o with | some x=>lessS b.Stamp x | none=>false)=false:=by
    intro o ho
    cases o with
    | none=>rfl
    | some x =>
      simp only at ho ⊢
      cases h:lessS b.Stamp x with
      | false=>rfl
      | true=>rw [lessS_tr hlt h] at ho; cases ho
   exact ⟨mono _ hp.1,mono _ hp.2⟩
theorem zwC {s:zaA} {ev:List zab} (ha:ev.Pairwise (fun a b=>lessS a.Stamp b.Stamp=true)) {i:Nat} {d:zah} (h:(walkS s ev).1 i=some d):(zkg d).Pairwise (fun a b=>lessS a.Stamp b.Stamp=true):=by
 have h1:(d.marks.map (·.event)).Pairwise (fun a b=>lessS a.Stamp b.Stamp=true):=by rw [zrW h]; exact ha.filter _
 unfold zkg; rw [zu0] at h1 ⊢; exact h1.filter _
theorem zxn {d:zah} (ha:(zkg d).Pairwise (fun a b=>lessS a.Stamp b.Stamp=true)) (R:Reop) {p:zao×zab}:p∈countS d R↔p∈countS d []∧keepM d R p.2=true:=by
 have h1:∀ R,p∈countS d R↔mfind p.1 (countS d R)=some p.2:=fun R=>⟨fun h=>zoV (zoK d R).1 h,fun h=>zjQ h⟩
 rw [h1 R,h1 [],count_find ha R]
 cases mfind p.1 (countS d []) with
 | none=>simp
 | some e =>
   rw [Option.filter_some]; constructor
   · intro h; split at h
     · rename_i hk; injection h with h; subst h; exact ⟨rfl,hk⟩
     · cases h
   · rintro ⟨h,hk⟩
     injection h with h; subst h; rw [if_pos hk]
theorem given_reop {s:zaA} {ev:List zab} (ha:ev.Pairwise (fun a b=>lessS a.Stamp b.Stamp=true)) (R:Reop) (W:zbp→Bool)
  (hW:∀ i d,(walkS s ev).1 i=some d→∀ x∈d.marks,keepM d R x.event=W (zbP i d x.event)):isort zbE (zbQ (walkS s ev).1 R 100)=(isort zbE (zbQ (walkS s ev).1 [] 100)).filter W:=by
 rw [← zy2 _ _ (fun a ha b hb h1 h2 h3=>zs9 ha hb h1 h2 h3)]; have srt:∀ l,(isort zbE l).Pairwise (fun a b=>zbE b a=false):=zjJ (lt:=zbE) (fun _ _ _ h1 h2=>zkd h1 h2) (fun _ _ h=>zny h)
 have hp:List.Perm (zbQ (walkS s ev).1 R 100) ((zbQ (walkS s ev).1 [] 100).filter W):=by
  refine (zqZ (znz _ _ _) ((znz _ _ _).filter W)).2 (fun g=>?_); rw [zlu,zkT,zkT]
  have wk:∀ i d,(walkS s ev).1 i=some d→∀ p∈countS d [],keepM d R p.2=W (zbP i d p.2):=fun i d hd p hp=>by obtain ⟨x,x1,x2,_⟩:=countS_mem hp; rw [x2]; exact hW i d hd x x1
  constructor
  · rintro ⟨i,hi,d,hd,p,hp,rfl⟩
    obtain ⟨q1,q2⟩:=(zxn (zwC ha hd) R).1 hp; exact ⟨⟨i,hi,d,hd,p,q1,rfl⟩,by rw [← wk i d hd p q1]; exact q2⟩
  · rintro ⟨⟨i,hi,d,hd,p,hp,rfl⟩,hw⟩
    exact ⟨i,hi,d,hd,p,(zxn (zwC ha hd) R).2 ⟨hp,by rw [wk i d hd p hp]; exact hw⟩,rfl⟩
 refine zgu (lt:=zbE) (((zdx _).trans hp).trans (zdx _).symm) (srt _) (srt _) ?_; intro a ha b hb h1 h2; have q:=zrv h1 h2; exact zs9 ((zdx _).mem_iff.1 ha) ((zdx _).mem_iff.1 hb) q.1 q.2.1 q.2.2
theorem zrU {l:List zab} {r:zab} (hr:eventB r=true) (hn:∀ f∈l,eventB f=true→idE f≠idE r) (e:zab):Stays (l++[r]) e↔Stays l e∨e=r:=by
 unfold Stays; constructor
 · rintro ⟨h1,h2,h3⟩
   rcases zbO.1 h1 with h1 | h1
   · exact .inl ⟨h1,h2,fun f hf=>h3 f (zqf _ hf)⟩
   · exact .inr (zcB.1 h1)
 · rintro (⟨h1,h2,h3⟩ | rfl)
   · refine ⟨zqf _ h1,h2,fun f hf hv hi=>?_⟩; rcases zbO.1 hf with hf | hf
     · exact h3 f hf hv hi
     · rw [zcB.1 hf] at hi; exact absurd hi.symm (hn e h1 h2)
   · refine ⟨by simp,hr,fun f hf hv hi=>?_⟩; rcases zbO.1 hf with hf | hf
     · exact absurd hi (hn f hf hv)
     · exact zcB.1 hf
theorem asc_unique {a b:List zab} (h:∀ e,e∈a↔e∈b) (ha:a.Pairwise (fun a b=>lessS a.Stamp b.Stamp=true)) (hb:b.Pairwise (fun a b=>lessS a.Stamp b.Stamp=true)):a=b:=by
 have nd:∀ l:List zab,l.Pairwise (fun a b=>lessS a.Stamp b.Stamp=true)→l.Nodup:=fun l hl=>hl.imp fun {x y} h q=>by rw [q,zy3] at h; cases h
 have hp:=(zqZ (nd a ha) (nd b hb)).2 h; refine zgu (lt:=fun a b:zab=>lessS a.Stamp b.Stamp) hp (ha.imp fun h=>zg7 h) (hb.imp fun h=>zg7 h) ?_; intro x hx y hy h1 h2; obtain ⟨i,hi,rfl⟩:=zjq.1 hx; obtain ⟨j,hj,rfl⟩:=zjq.1 hy; have:=zuU.1 ha; rcases zuT i j with q | q | q
 · have h3:lessS a[i].Stamp a[j].Stamp=true:=this i j hi hj q; rw [h3] at h1; cases h1
 · subst q; rfl
 · have h3:lessS a[j].Stamp a[i].Stamp=true:=this j i hj hi q; rw [h3] at h2; cases h2
theorem zzD {l:List zab} {r:zab} (hr:eventB r=true) (hn:∀ f∈l,eventB f=true→idE f≠idE r) {p:zab→Bool} (hp:p r=false) (hq:∀ f∈l,p f=true):(canonS (l++[r])).filter p=canonS l:=by
 refine asc_unique (fun e=>?_) ((zsP _).filter p) (zsP l); rw [zlu,zju,zrU hr hn,zju]; constructor
 · rintro ⟨h | rfl,h2⟩
   · exact h
   · rw [hp] at h2; cases h2
 · intro h; exact ⟨.inl h,hq e h.1⟩
def zcM (st:zaL) (n:Int):zab:=⟨st,2,n,-1,0,0,[]⟩
theorem zzc {s:zaA} {l:List zab} (hk:∀ e∈l,e.Kind=0) {st:zaL} {n:Int} (hv:eventB (zcM st n)=true):foldS s (l++[zcM st n])=⟨(foldS s l).Given.filter (fun g=>g.Script != n || decide (1 < g.Level) || lessS st g.Stamp),(foldS s l).Suspensions⟩:=by
 have hsrc:st.Source=0:=by have:=(znf hv).2.2.2.2; unfold OkKind zcM at this; simp only at this; omega
 have hid:∀ f∈l,eventB f=true→f.Stamp.Source≠0:=fun f hf hv=>by have:=(znf hv).2.2.2.2; have:=hk f hf; unfold OkKind at *; omega
 have hn:∀ f∈l,eventB f=true→idE f≠idE (zcM st n):=fun f hf hv q=>by have:=hid f hf hv; have h:f.Stamp.Source=st.Source:=congrArg Prod.fst q; omega
 have hO:=zzD hv hn (p:=fun e=>e.Kind == 0) (by simp [zcM]) (fun f hf=>by simpa using hk f hf); have hC:∀ e∈canonS l,e.Kind=0∧eventB e=true:=fun e he=>⟨hk e (zju.1 he).1,(zju.1 he).2.1⟩
 have hC':∀ e∈canonS (l++[zcM st n]),e.Kind=0∨e=zcM st n:=fun e he=>by
  rcases (zrU hv hn e).1 (zju.1 he) with h | h
  · exact .inl (hk e h.1)
  · exact .inr h
 have hin:zcM st n∈canonS (l++[zcM st n]):=zju.2 ((zrU hv hn _).2 (.inr rfl))
 have hW:(walkS s (canonS (l++[zcM st n]))).1=(walkS s (canonS l)).1:=by
  funext i; rw [walk_at,walk_at,← hO]; congr 1; funext d; symm; refine zpI s i _ _ d (fun e he hp d=>?_); unfold deskE; rcases hC' e he with h | rfl
  · simp [h] at hp
  · simp [zcM]
 have hR1:(walkS s (canonS l)).2=[]:=by rw [zxY]; exact zwN [] (fun e he=>(hC e he).1)
 have hR2:(walkS s (canonS (l++[zcM st n]))).2=[(⟨n,-1⟩,st)]:=by
  rw [zxY]
  have key:∀ (ev:List zab) (R:Reop),(∀ e∈ev,e.Kind=0∨e=zcM st n)→R=[]∨R=[(⟨n,-1⟩,st)]→zcM st n∈ev∨R=[(⟨n,-1⟩,st)]→ev.foldl reopE R=[(⟨n,-1⟩,st)]:=by
   intro ev
   induction ev with
   | nil=>intro R _ _ h; simpa using h
   | cons e r ih =>
     intro R h1 h2 h3; rw [zhs]; rcases h1 e (by simp) with h | rfl
     · rw [show reopE R e=R by unfold reopE; rw [iNQ]]; refine ih R (fun x hx=>h1 x (by simp [hx])) h2 ?_; rcases h3 with h3 | h3
       · rcases zaZ.1 h3 with h3 | h3
         · rw [← h3] at h; simp [zcM] at h
         · exact .inl h3
       · exact .inr h3
     · have:reopE R (zcM st n)=[(⟨n,-1⟩,st)]:=by unfold reopE; rw [if_pos (show (zcM st n).Kind=2 from rfl)]; rcases h2 with rfl | rfl <;> simp [zcM,mput]
       rw [this]; exact ih _ (fun x hx=>h1 x (by simp [hx])) (.inr rfl) (.inr rfl)
  exact key _ [] hC' (.inl rfl) (.inl hin)
 rw [fold_eq,fold_eq,hR1,hR2,hW]; simp only; congr 1; refine given_reop (zsP l) _ _ (fun i d hd x hx=>?_); have hm:x.event∈(canonS l).filter (markEv s i):=by rw [← zrW hd]; exact zbw.2 ⟨x,hx,rfl⟩
 obtain ⟨m1,m2⟩:=zlu.1 hm; have hkx:=(znf (hC _ m1).2).2.2.2.2; have hk0:=(hC _ m1).1; have hsx:=hid _ (zju.1 m1).1 (hC _ m1).2; have hpart:x.event.Part≠-1:=by unfold OkKind at hkx; omega
 unfold keepM reopB zbP; simp only [mfind]; rw [if_neg (show ¬ (⟨n,-1⟩:zao)=⟨x.event.Script,x.event.Part⟩ from fun q=>by injection q with _ q; exact hpart q.symm)]; simp only [zlt]; by_cases hs:x.event.Script=n
 · rw [if_pos (by rw [hs])]; simp only; rw [show (x.event.Script != n)=false by simpa using hs,zlt]
   have hl:lessS st x.event.Stamp=!lessS x.event.Stamp st:=by
    cases h:lessS x.event.Stamp st with
    | true=>rw [zg7 h]; rfl
    | false =>
      cases h2:lessS st x.event.Stamp with
      | true=>rfl
      | false=>have:=zvu h h2; rw [this] at hsx; exact absurd hsrc hsx
   rw [hl]; by_cases hd:d.level < 2
   · rw [decide_eq_true hd,decide_eq_false (show ¬ 1 < d.level by omega),zjo,zlt]
   · rw [decide_eq_false hd,decide_eq_true (show 1 < d.level by omega)]; simp
 · rw [if_neg (fun q=>by injection q with q _; exact hs q.symm)]; simp [hs]
set_option maxRecDepth 100000
def scr0 (i:Int):zaP:=⟨i,0,i,1,0,[],[-1]⟩
def S0:zaA:=⟨[⟨7,-1,1,9,[0]⟩],[scr0 1,scr0 2,scr0 3,scr0 4,scr0 5,scr0 6],[⟨0,0,[⟨1,5,0,0,0,0⟩]⟩],[⟨[[]],[0]⟩],[⟨1,[4]⟩,⟨6,[4]⟩],⟨0,0,1,1⟩⟩
theorem c_setup29:cw zk4 [] []=some (znC S0):=cw_of 30 (by kernel_rfl)
def at29 (t s v:Int):zab:=⟨⟨t,7,t⟩,0,s,0,v,0,[]⟩
theorem zqp (a b c:Int):cw zgA [I a,I b,I c] []=some (zkh (at29 a b c)):=e_law29_at a b c rfl
def l0:List zab:=[at29 9 2 1,at29 10 1 4,at29 11 3 2,at29 12 4 3,at29 13 6 1]
def l1:List zab:=l0++[⟨⟨20,0,0⟩,1,0,0,0,7,[]⟩,at29 21 3 5]
def w0d:Desks×Reop:=walkS S0 (canonS l0)
def zmU (i:Nat) (d:zah) (R:Reop) (l:List zba):List GTask:=l.filterMap fun x=>if x.void=true∧(mfind ⟨x.event.Script,x.event.Part⟩ (countS d R)).isSome=false then some ⟨x.event.Script,(i:Int)⟩ else none
def zqP (ds:Desks) (R:Reop):Nat→Nat→List GTask
 | _,0=>[]
 | i,n+1=>(match ds i with | some d=>zmU i d R d.marks | none=>[])++zqP ds R (i+1) n
theorem ok_S0:zdL S0 where
 markers:=by
  refine ⟨by decide,?_,?_⟩
  · intro m hm; simp only [S0,zcB] at hm; subst hm; refine ⟨⟨by decide,by decide,by decide,by decide,by simp⟩,fun j hj=>by simp at hj⟩
  · intro j hj; simp [S0] at hj
 scripts:=by
  refine ⟨by decide,?_,?_⟩
  · intro x hx; simp only [S0,zaZ,zcT,or_false] at hx; rcases hx with rfl | rfl | rfl | rfl | rfl | rfl <;> exact ⟨by decide,by decide,by decide,by decide,by decide,by decide⟩
  · intro j hj; have:j < 5:=by simp [S0] at hj; omega
    match j,this with
    | 0,_ | 1,_ | 2,_ | 3,_ | 4,_=>simp [S0,scr0]
 papers:=by decide
 len:=rfl
 schemes:=by
  intro j p c hp hc
  match j with
  | 0 =>
    simp only [S0,ze3,zas] at hp hc; subst hp hc; refine ⟨⟨by decide,by decide,by decide,?_,by decide⟩,rfl,rfl,?_⟩
    · intro x hx; simp only [zcB] at hx; subst hx; exact ⟨by decide,by decide,by decide,.inl (by decide)⟩
    · intro j x ks k hx hks hk
      match j with
      | 0=>simp only [ze3,zas] at hx hks hk; subst hx hks hk; exact ⟨⟨by simp,fun j hj=>by simp at hj⟩,by decide⟩
      | j+1=>simp at hx
  | j+1=>simp [S0] at hp
 script:=by
  intro x hx; refine ⟨0,⟨0,0,[⟨1,5,0,0,0,0⟩]⟩,⟨[[]],[0]⟩,?_,rfl,?_⟩
  · simp only [S0,zaZ,zcT,or_false] at hx; rcases hx with rfl | rfl | rfl | rfl | rfl | rfl <;> rfl
  · have:x.Answers=[-1]:=by simp only [S0,zaZ,zcT,or_false] at hx; rcases hx with rfl | rfl | rfl | rfl | rfl | rfl <;> rfl
    rw [this]; refine ⟨rfl,fun j y v hy _ hk=>?_⟩
    match j with
    | 0=>simp only [ze3,zas] at hy; subst hy; exact absurd rfl hk
    | j+1=>simp at hy
 seeds:=by decide
 asc:=by
  intro j hj; have:j < 1:=by simp [S0] at hj; omega
  match j,this with
  | 0,_=>simp [S0]
 seed:=by
  intro x hx; refine ⟨0,⟨0,0,[⟨1,5,0,0,0,0⟩]⟩,?_,?_⟩
  · simp only [S0,zaZ,zcT,or_false] at hx; rcases hx with rfl | rfl <;> rfl
  · have:x.Marks=[4]:=by simp only [S0,zaZ,zcT,or_false] at hx; rcases hx with rfl | rfl <;> rfl
    rw [this]; refine ⟨rfl,fun j y v hy hv=>?_⟩
    match j with
    | 0=>simp only [ze3,zas] at hy hv; subst hy hv; decide
    | j+1=>simp at hy
 monitor:=⟨by decide,by decide,by decide,by decide⟩
 short:=by intro c hc ks hk; simp only [S0,zcB] at hc; subst hc; simp only [zcB] at hk; subst hk; decide
 short2:=by intro m hm; simp only [S0,zcB] at hm; subst hm; decide
theorem few0:FewEv l0:=few_of (by decide) (by intro e he; simp only [l0,zaZ,zcT,or_false] at he; rcases he with rfl | rfl | rfl | rfl | rfl <;> decide)
theorem few1:FewEv l1:=few_of (by decide) (by intro e he; simp only [l1,l0,zbO,zaZ,zcT,or_false] at he; rcases he with (rfl | rfl | rfl | rfl | rfl) | rfl | rfl <;> decide)
theorem tasks_ok:zqP w0d.1 w0d.2 0 100=[⟨3,7⟩,⟨4,7⟩]:=by kernel_rfl
theorem sort_ok:cw zfB [.row 1000 2 0 2,.fn zlZ []] [(1000,⟨2,zbA,List.map zft [⟨3,7⟩,⟨4,7⟩],false⟩)]=some (zdS [⟨3,7⟩,⟨4,7⟩]):=cw_of 30 (by kernel_rfl)
theorem compact_ok:cw zfM [.row 1000 2 0 2] [(1000,⟨2,zbA,List.map zft [⟨3,7⟩,⟨4,7⟩],false⟩)]=some (zdZ (2,[⟨3,7⟩,⟨4,7⟩])):=cw_of 30 (by kernel_rfl)
theorem tasks_len (i:Nat) (d:zah) (R:Reop) (l:List zba):(zmU i d R l).length≤l.length:=zq0 _ _
theorem ret_marks (r1:((List zab)×Int)×(List zab)) (ds:Desks) (R:Reop) (i:Nat) (d:zah) (hl:d.marks.length≤1000000) {y:AV×Mem} (out:List GTask) (ho:out.length≤1000000)
  (h:zde r1 (deskL ds,R) (List.map zft (out++zmU i d R d.marks)) (w64 ((i:Int)+1))=some y):zdf r1 (deskL ds,R) i d (countS d R) (List.map zft out) 0=some y:=by
 have key:∀ (n j:Nat) (o:List GTask),j+n=d.marks.length→o++zmU i d R (d.marks.drop j)=out++zmU i d R d.marks→o.length≤1000000+j→zdf r1 (deskL ds,R) i d (countS d R) (List.map zft o) j=some y:=by
  intro n
  induction n with
  | zero=>intro j o hj he hlo; refine zmf _ _ _ _ _ _ _ ?_; rw [zat,zaU (by omega)]; rw [zhQ (by omega)] at he; simp only [zmU,List.filterMap_nil,List.append_nil] at he; rw [he]; exact h
  | succ n ih =>
    intro j o hj he hlo; have hlt:j < d.marks.length:=by omega
    refine zmf _ _ _ _ _ _ _ ?_; rw [zat,zaH (by omega),cPQ,zbg,zgz,zaE hlt,za9,w6Q,show ((j:Int)+1)=((j+1:Nat):Int) by omega]; rw [show (AV.agg (zcD.enc ⟨d.marks[j].event.Script,d.marks[j].event.Part⟩))=.agg (zbb ⟨d.marks[j].event.Script,d.marks[j].event.Part⟩) from rfl,zkU]; rw [zfG hlt] at he; unfold zmU at he; rw [List.filterMap_cons] at he
    cases hv:d.marks[j].void with
    | false=>rw [zaB]; rw [if_neg (by rw [hv]; simp)] at he; exact ih (j+1) o (by omega) he (by omega)
    | true =>
      rw [zaM]
      cases hm:(mfind ⟨d.marks[j].event.Script,d.marks[j].event.Part⟩ (countS d R)).isSome with
      | true=>rw [zb0,zaB]; rw [if_neg (by rw [hm]; simp)] at he; exact ih (j+1) o (by omega) he (by omega)
      | false=>rw [zda,zaM,zap rfl,zap (by simp only [zat]; omega),zap rfl]; rw [if_pos ⟨hv,hm⟩] at he; have:=ih (j+1) (o++[⟨d.marks[j].event.Script,i⟩]) (by omega) (by rw [ziD]; exact he) (by simp; omega); rw [← zdg] at this; exact this
 exact key d.marks.length 0 out (by omega) (by rw [zoe]) (by omega)
theorem ret_desks (r1:((List zab)×Int)×(List zab)) (ds:Desks) (R:Reop) (hd:∀ i d,ds i=some d→d.marks.length≤200) {y:AV×Mem} {ts:List GTask}
  (h:zde r1 (deskL ds,R) (List.map zft ts) 100=some y):∀ (n i:Nat) (out:List GTask),i+n=100→out++zqP ds R i n=ts→out.length≤200*i→zde r1 (deskL ds,R) (List.map zft out) i=some y:=by
 intro n
 induction n with
 | zero =>
   intro i out hi he _; have:i=100:=by omega
   subst this; simp only [zqP,List.append_nil] at he; rw [he]; exact h
 | succ n ih =>
   intro i out hi he hlo; have hlt:i < 100:=by omega
   refine zme _ _ _ _ ?_; have hget:=zxp ds hlt; rw [zaH (by omega),cPQ,zap (show (i:Int) < 100 by omega),zbg]; unfold zqP at he
   cases hdi:ds i with
   | none=>rw [hdi] at hget he; rw [zpk (by simpa [nDp] using hget)]; refine zpb _ _ _ _ ?_; rw [w6Q,show ((i:Int)+1)=((i+1:Nat):Int) by omega]; exact ih (i+1) out (by omega) (by simpa using he) (by omega)
   | some d=>rw [hdi] at hget he; rw [zxr (D:=zeR) (x:=d) (by simpa [nDp] using hget)]; refine zn4 _ _ _ _ _ ?_; have hc:=zv6 d R (by have:=hd i d hdi; omega); unfold zcQ at hc; rw [hc,zhG]; have hml:=hd i d hdi; have htl:=tasks_len i d R d.marks; refine ret_marks r1 ds R i d (by omega) out (by omega) ?_; rw [w6Q,show ((i:Int)+1)=((i+1:Nat):Int) by omega]; exact ih (i+1) _ (by omega) (by rw [ziD]; exact he) (by rw [zfy]; omega)
theorem c_ret0:cw zjB [.agg (zau S0),.row 1001 9 0 5] [(1001,⟨9,zac,List.map zaa l0,false⟩)]=some (zjT (([⟨3,7⟩,⟨4,7⟩],0),l0)):=by
 refine zsW S0 l0 ?_; rw [zpg ok_S0,zaX,show ((0:Int) != 0)=false from rfl,zaB]; have hc:=c_canon true few0; rw [show cw zbh [.row 1000 9 0 (List.length (List.map zaa l0))] [(1000,⟨9,zac,List.map zaa l0,false⟩)]=some (zdu ((canonS l0,0),l0)) from hc,zkq]; simp only [show ((0:Int) != 0)=false from rfl,zaB]; rw [c_walk (okRun ok_S0 few0),zm9]; refine ret_desks _ _ _ (fun i d hd=>?_) (ts:=[⟨3,7⟩,⟨4,7⟩]) ?_ 100 0 [] (by omega) tasks_ok (by simp)
 · have h1:=(desk_ok ok_S0 _ hd).marks; have h2:=(zeg l0).length_eq; have h3:=few0.2.1; omega
 · refine zme _ _ _ _ ?_; rw [zaU (by omega),show List.length (List.map zft [⟨3,7⟩,⟨4,7⟩])=2 from rfl,sort_ok,zio,compact_ok,ziR,zap (by simp)]; rfl
def m0:zbU:=⟨[⟨2,0,7,1,1,⟨9,7,9⟩⟩],[⟨7,⟨10,7,10⟩,⟨13,7,13⟩,⟨0,0,0⟩,false,false⟩]⟩
def m1:zbU:=⟨[⟨2,0,7,1,1,⟨9,7,9⟩⟩,⟨3,0,7,1,5,⟨21,7,21⟩⟩],[⟨7,⟨10,7,10⟩,⟨13,7,13⟩,⟨20,0,0⟩,false,true⟩]⟩
theorem fold0:foldS S0 l0=m0:=by kernel_rfl
theorem fold1:foldS S0 l1=m1:=by kernel_rfl
theorem c_sane:cw zjx [] []=some (zan true):=by refine zyV ?_; rw [zqp,ze5,zqp,ze5,zqp,ze5,zqp,ze5,zqp,ze5,zap rfl,c_setup29,zkC]; have h0:=c_fold ok_S0 few0; rw [fold0] at h0; refine Eq.trans (zbD (D:=zc0) (x:=((m0,0),l0)) h0 _) ?_; rw [zkC]; refine Eq.trans (zbD (D:=zfw) (x:=(([⟨3,7⟩,⟨4,7⟩],0),l0)) c_ret0 _) ?_; rw [zqp,ze5,zap (by rfl),zap (by decide),zap rfl,zkC]; have h1:=c_fold ok_S0 few1; rw [fold1] at h1; refine Eq.trans (zbD (D:=zc0) (x:=((m1,0),l1)) h1 _) ?_; rw [c_Counting m1 3 0 (by decide),zpF,zuk m1 7 _ (by decide),zam,zuk m1 7 _ (by decide),zam]; rw [show zxo m1 3 0=[⟨3,0,7,1,5,⟨21,7,21⟩⟩] from by decide,show zl8 m1 7 ⟨15,0,0⟩=true from by decide,show zl8 m1 7 ⟨21,0,0⟩=false from by decide]; simp only [zjw,zfK]; simp [m0,m1,zaM,zbM]; rfl
set_option maxRecDepth 20000
theorem fold_lens {s:zaA} (hs:zdL s) {l:List zab} (h:FewEv l):(foldS s l).Given.length≤1000000∧(foldS s l).Suspensions.length≤1000000:=by rw [fold_eq]; have h1:=zpT s (canonS l) (walkS s (canonS l)).2 100; have h2:=(zeg l).length_eq; have h3:=h.2.1; have h4:=zwP hs (canonS l) 100; have h5:=(zdx (lt:=zbE) (zbQ (walkS s (canonS l)).1 (walkS s (canonS l)).2 100)).length_eq; simp only; omega
set_option maxRecDepth 20000
theorem c_given (a b:List zbp) (h1:a.length≤1000000):cw znv [.sl 8 (List.map za1 a),.sl 8 (List.map za1 b)] []=some (zan (dec (a=b))):=by
 refine zyb a b ?_; simp only [zat]; by_cases hg:a.length=b.length
 case neg=>rw [show ((a.length:Int) != (b.length:Int))=true by simp only [bne_iff_ne,ne_eq]; omega,zaM,zbW (fun h=>hg (by rw [h]))]; rfl
 rw [show ((a.length:Int) != (b.length:Int))=false by simp [hg],zaB]
 have eqG:∀ x y:zbp,(x.Script == y.Script && (x.Part == y.Part && (x.Marker == y.Marker && (x.Level == y.Level && (x.Value == y.Value && (x.Stamp.Time == y.Stamp.Time && (x.Stamp.Source == y.Stamp.Source && (x.Stamp.Seq == y.Stamp.Seq && true)) && true))))))=decide (x=y):=by
  rintro ⟨a1,a2,a3,a4,a5,a6,a7,a8⟩ ⟨b1,b2,b3,b4,b5,b6,b7,b8⟩
  rw [Bool.eq_iff_iff]; simp [and_assoc]
 have L:=zoD a.length (fun j hj=>a[j]=b[j]'(by omega)) (fun i=>zi4 a b i) zan ?_ ?_ ?_
 · rw [L,zmF (p:=∀ (j:Nat) (hj:j < a.length),a[j]=b[j]'(by omega)) (q:=a=b)]; constructor
   · intro h; exact zuX hg (fun i h1 _=>h i h1)
   · intro h; subst h; intros; rfl
 · refine zma _ _ _ ?_; simp (disch:=omega) only [zat,zaU]; rfl
 · intro i hi hn; refine zma _ _ _ ?_; simp (disch:=omega) only [zat,zaH,zap,zbg,zjw,zaE hi,zaE (show i < b.length by omega),za9,eqG]; rw [decide_eq_false hn,zda,zaM]; rfl
 · intro i hi y hn hk; refine zma _ _ _ ?_; simp (disch:=omega) only [zat,zaH,zap,zbg,zjw,zaE hi,zaE (show i < b.length by omega),za9,eqG]; rw [decide_eq_true hn,zb0,zaB,w6Q]; exact hk
theorem ztd (t:List Int) (u:Int) (hu:0≤u∧u≤255):cw zkR [.sl 1 (List.map zak t),.v (.int .u8 u)] []=some (zan true):=by
 refine zpJ t u ?_; rw [c_Light,zam]; by_cases ht:(t.length:Int)≤600
 case neg=>rw [decide_eq_false ht,zda,zaM,c_sane,zam]; rfl
 rw [decide_eq_true ht,zb0,zaB,c_Roll,zwb]; obtain ⟨s,d1,e1,hs,hd1⟩:=c_Setup ⟨t,0⟩ ⟨by simp,by show t.length≤600; omega⟩; obtain ⟨l,d2,e2,hl,hpl,hd2⟩:=c_FullK d1 s 50 hd1 hs (by omega); rw [e1,zqs]; dsimp only; rw [e2,zrg]; dsimp only; rw [zat]; have hsl:=hs.scripts.2.2; by_cases h0:s.Scripts.length=0
 · rw [h0,show (((0:Nat):Int) == 0)=true from rfl,zaM,c_sane,zam]; rfl
 rw [show ((s.Scripts.length:Int) == 0)=false by simp only [beq_eq_false_iff_ne]; omega,zaB,w6Q,cPQ]; have hm0:0≤u.tmod (s.Scripts.length:Int):=Int.tmod_nonneg _ hu.1; have hm1:u.tmod (s.Scripts.length:Int) < s.Scripts.length:=zuW u (by omega); have hlt:(u.tmod (s.Scripts.length:Int)).toNat < s.Scripts.length:=by omega
 rw [zap hm0,zk3,zaE hlt,za9]; have hok:=hs.ok; have hxm:=zbn hlt; generalize s.Scripts[(u.tmod (s.Scripts.length:Int)).toNat]=x at hxm; obtain ⟨r,d3,e3,r0,r1,hd3⟩:=zcV d2 60 hd2 (by omega); rw [e3,zbc]; have hpg:∀ e∈l,e.Pages.length≤1000000:=fun e he=>by have:=(hpl e he).1; omega
 have few:FewEv l:=few_of (by omega) hpg; refine Eq.trans (zbD (D:=zc0) (x:=((foldS s l,0),l)) (c_fold hok few) _) ?_; dsimp only; rw [w6Q,cPQ,zap (by simp only [zhr,zat]; omega),zap rfl,zap (by simp only [zhr,zat]; omega),zmp,zdg zaa]
 have few2:FewEv (l++[zcM ⟨50+r,0,8000⟩ x.Number]):=few_of (by simp; omega) (fun e he=>by
  rcases zbO.1 he with h | h
  · exact hpg e h
  · rw [zcB.1 h]; simp [zcM])
 have c2:=c_fold hok few2; rw [← zdg zaa] at c2; refine Eq.trans (zbD (D:=zc0) (x:=((foldS s (l++[zcM ⟨50+r,0,8000⟩ x.Number]),0),l++[zcM ⟨50+r,0,8000⟩ x.Number])) ?_ _) ?_
 · rw [← zdg zaa]; exact c2
 have hxn:=hok.scripts.2.1 x hxm
 have hv:eventB (zcM ⟨50+r,0,8000⟩ x.Number)=true:=by
  have q0:0≤x.Number∧x.Number≤319999:=by unfold zon at hxn; omega
  have q1:0≤50+r∧50+r≤1000000:=by omega
  simp [eventB,zcM,stampB,q0.1,q0.2,q1.1,q1.2]
 rw [zzc (fun e he=>(hpl e he).2.1) hv]; have hlen:=fold_lens hok few; generalize foldS s l=m at *
 have lo:∀ (n j:Nat) (out:List zbp),j+n=m.Given.length→out.length≤j→out++(m.Given.drop j).filter (fun g=>g.Script != x.Number || decide (1 < g.Level) || lessS ⟨50+r,0,8000⟩ g.Stamp)=m.Given.filter (fun g=>g.Script != x.Number || decide (1 < g.Level) || lessS ⟨50+r,0,8000⟩ g.Stamp)→∀ Q:List zab,zdG x (r,d3) ((m,0),l) ((⟨m.Given.filter (fun g=>g.Script != x.Number || decide (1 < g.Level) || lessS ⟨50+r,0,8000⟩ g.Stamp),m.Suspensions⟩,0),Q) (List.map za1 out) j=some (zan true):=by
  intro n
  induction n with
  | zero=>intro j out hj ho he Q; rw [zhQ (by omega),List.filter_nil,List.append_nil] at he; refine zjX _ _ _ _ _ _ ?_; dsimp only; rw [zat,zaU (by omega),show ((0:Int) == 0)=true from rfl,zaM,zaM,cPQ,zmp,← he,c_given _ _ (by omega),zam,zbH rfl,zaM,show (((List.map zag m.Suspensions).length:Int) == ((List.map zag m.Suspensions).length:Int))=true from by simp,zaM,c_sane,zam]; rfl
  | succ n ih =>
    intro j out hj ho he Q; have hlt:j < m.Given.length:=by omega
    refine zjX _ _ _ _ _ _ ?_; dsimp only; rw [zat,zaH (by omega),cPQ,zbg,zjw,zaE hlt,za9,w6Q,w6Q,show ((j:Int)+1)=((j+1:Nat):Int) by omega]; rw [zfG hlt,zhR] at he
    have add:(m.Given[j].Script != x.Number || decide (1 < m.Given[j].Level) || lessS ⟨50+r,0,8000⟩ m.Given[j].Stamp)=true→zc2 x (r,d3) ((m,0),l) ((⟨m.Given.filter (fun g=>g.Script != x.Number || decide (1 < g.Level) || lessS ⟨50+r,0,8000⟩ g.Stamp),m.Suspensions⟩,0),Q) (List.map za1 out) j m.Given[j]=some (zan true):=fun hb=>by rw [if_pos hb] at he; refine znk _ _ _ _ _ _ _ ?_; rw [zap rfl,zap (by simp only [zat]; omega),zap rfl,zdg za1,w6Q,show ((j:Int)+1)=((j+1:Nat):Int) by omega]; exact ih (j+1) (out++[m.Given[j]]) (by omega) (by simp; omega) (by rw [← he]; simp) Q
    cases b1:(m.Given[j].Script != x.Number) with
    | true=>rw [zaM]; exact add (by rw [b1]; rfl)
    | false =>
    rw [zaB]; by_cases b2:1 < m.Given[j].Level
    · rw [zaH b2]; exact add (by rw [decide_eq_true b2,Bool.or_true,Bool.true_or])
    rw [zaU b2,zyP,zam]
    cases b3:lessS ⟨50+r,0,8000⟩ m.Given[j].Stamp with
    | true=>rw [zaM]; exact add (by rw [b3,Bool.or_true])
    | false =>
    rw [zaB]; rw [b1,b3,decide_eq_false b2,iNs] at he; exact ih (j+1) out (by omega) (by omega) he Q
 exact lo m.Given.length 0 [] (by omega) (by simp) (by simp) _
end Go.Proofs.YtikogkgdkdmljaaGreat
namespace Go.Ab
open Go.RowKit
abbrev Old (w:World):Nat→Prop:=fun g=>g < w.heap.size
def Rd (P:Program) (w:World) (t:TypeId) (n:Nat) {T:Type} (nT:T→List AV):Prop:=
 P.cellsOf t=n∧(∀ v,(nT v).length=n)∧∀ (H:Type) (enc:TypeId×Value→H) (base:Nat) (spare:Nat→Bool) (held:Bool) (fuel:Nat) (cs:List Value) (x:DataW H×List MemPlace),DataW.trod enc P w base spare held fuel t cs=some x→∃ v:T,cs.length=n∧∀ (j:Nat) (c:AV) (y:Value),(nT v)[j]?=some c→cs[j]?=some y→CRel (Old w) w c y∧y.oneCell'=true
theorem rd_int {P:Program} {w:World} {t:TypeId} {k:IntKind} (hc:P.cellsOf t=1) (ht:P.underlying t=some (.int k)):Rd P w t 1 (fun n:Int=>[AV.v (.int k n)]):=by
 refine ⟨hc,fun _=>rfl,fun H enc base spare held fuel cs x h=>?_⟩; obtain ⟨n,rfl,_,_⟩:=DataW.trod_int ht h; refine ⟨n,rfl,fun j c y h1 h2=>?_⟩
 cases j with
 | zero=>simp at h1 h2; subst h1; subst h2; exact ⟨.v _,rfl⟩
 | succ j=>simp at h1
theorem list_of {T:Type} {R:Nat→T→Prop}:∀ n:Nat,(∀ i,i < n→∃ v,R i v)→∃ l:List T,l.length=n∧∀ i v,l[i]?=some v→R i v
 | 0,_=>⟨[],rfl,fun i v h=>by simp at h⟩
 | n+1,h=>by
   obtain ⟨l,h1,h2⟩:=list_of n (fun i hi=>h i (by omega)); obtain ⟨v,hv⟩:=h n (by omega); refine ⟨l++[v],by simp [h1],fun i u hu=>?_⟩; by_cases hi:i < n
   · rw [zmr (by omega)] at hu; exact h2 i u hu
   · have hlt:=(zbs.1 hu).1; simp at hlt; have:i=l.length:=by omega
     subst this; rw [List.getElem?_append_right (by omega)] at hu; simp at hu; subst hu; rw [h1]; exact hv
theorem rd_slice {P:Program} {w:World} {t e:TypeId} {n:Nat} {T:Type} {nT:T→List AV} (hc:P.cellsOf t=1) (ht:P.underlying t=some (.slice e)) (hn:0 < n) (he:Rd P w e n nT):Rd P w t 1 (fun l:List T=>[AV.sl n (l.map nT)]):=by
 refine ⟨hc,fun _=>rfl,fun H enc base spare held fuel cs x h=>?_⟩
 have done:∀ (l:List T) (y:Value),CRel (Old w) w (.sl n (l.map nT)) y→y.oneCell'=true→∃ v:List T,[y].length=1∧∀ (j:Nat) (c:AV) (z:Value),[AV.sl n (v.map nT)][j]?=some c→[y][j]?=some z→CRel (Old w) w c z∧z.oneCell'=true:=by
  intro l y hy h1; refine ⟨l,rfl,fun j c z hj hz=>?_⟩
  cases j with
  | zero=>simp at hj hz; subst hj; subst hz; exact ⟨hy,h1⟩
  | succ j=>simp at hj
 rcases DataW.trod_slice ht h with ⟨rfl,_⟩ | ⟨a,len,cap,elems,rest,m,rfl,rfl,_,hb,hl,_,hlen,hel,_,_⟩
 · exact done [] _ (CRel.nil_sl n) rfl
 · have each:∀ i,i < len→∃ v:T,a.block < w.heap.size∧∀ (j:Nat) (c:AV),(nT v)[j]?=some c→∃ y,w.cell? (a.add (i*n+j))=some y∧CRel (Old w) w c y∧y.oneCell'=true:=by
    intro i hi; have h1:=hel i hi; rw [zaE (by omega),he.1] at h1; obtain ⟨cs',h2,h3⟩:=Option.bind_eq_some_iff.1 h1; obtain ⟨v,h4,h5⟩:=he.2.2 H enc base spare held m cs' _ h3; obtain ⟨h6,h7,h8⟩:=World.cells?_some h2; have hblk:=World.cells?_block h2 hn; rw [zhF] at hblk; refine ⟨v,hblk,fun j c hj=>?_⟩; have hjn:j < n:=by have:=(zbs.1 hj).1; rw [he.2.1] at this; exact this
    have h9:=h8 j hjn; rw [Go.Addr.add_add] at h9; have h10:cs'[j]?=some (cs'[j]'(by omega)):=zaE (by omega); refine ⟨cs'[j]'(by omega),by rw [h9,h10],h5 j c _ hj h10⟩
   obtain ⟨l,hll,hlr⟩:=list_of len each; refine done l _ (.sl n _ (some a) len cap (fun i j=>(w.cell? (a.add (i*n+j))).getD undef) (by simp; omega) hl (fun cs hcs=>by obtain ⟨v,_,rfl⟩:=zbw.1 hcs; exact he.2.1 v) ?_ ?_) rfl
   · cases l with
     | nil=>left; rfl
     | cons v l'=>right; refine ⟨a,rfl,(hlr 0 v rfl).1,fun i j cs c h1 h2=>?_⟩; rw [zcK] at h1; obtain ⟨u,hu,rfl⟩:=Option.map_eq_some_iff.1 h1; obtain ⟨y,hy,hr,ho⟩:=(hlr i u hu).2 j c h2; rw [hy]; exact ⟨rfl,ho⟩
   · intro i j cs c h1 h2; rw [zcK] at h1; obtain ⟨u,hu,rfl⟩:=Option.map_eq_some_iff.1 h1; obtain ⟨y,hy,hr,ho⟩:=(hlr i u hu).2 j c h2; rw [hy]; exact hr
theorem arg_cell {P:Program} {w:World} {t:TypeId} {T:Type} {f:T→AV} (hr:Rd P w t 1 (fun v=>[f v])) {H:Type} {enc:TypeId×Value→H} {base:Nat} {spare:Nat→Bool} {held:Bool} {y:Value} (hy:y.cells.toList=[y]) {d:DataW H} {ps:List MemPlace}
  (h:DataW.Trod enc P w base spare held t y d ps) {κ:Kap} {D:Nat→Prop}:∃ v:T,VRel (Old w) κ D w (f v) y:=by
 obtain ⟨fuel,hf⟩:=h; rw [hy] at hf; obtain ⟨v,_,h2⟩:=hr.2.2 H enc base spare held fuel _ _ hf; exact ⟨v,.c (h2 0 _ _ rfl rfl).1⟩
end Go.Ab
end
