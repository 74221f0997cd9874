/- MarkingReopens. -/
import Derived.Test.YtikogkgdkdmljaaGreatJ5
import Derived.Test.YtikogkgdkdmljaaGreatAb9
import Derived.OpenShut
import Derived.DataElems
import Derived.ChangeArms
set_option linter.unusedSimpArgs false
set_option linter.unusedVariables false
noncomputable section
namespace Go.Proofs.YtikogkgdkdmljaaGreat
open Go.Ab
set_option maxRecDepth 20000
theorem c_given (a b:List zbp) (h1:a.length≤1000000):cw znV [.sl 8 (List.map za5 a),.sl 8 (List.map za5 b)] []=some (zam (dec (a=b))):=by
 refine zyU a b ?_; simp only [zap]; by_cases hg:a.length=b.length
 case neg=>rw [show ((a.length:Int) != (b.length:Int))=true by simp only [bne_iff_ne,ne_eq]; omega,zaI,zbG (fun h=>hg (by rw [h]))]; rfl
 rw [show ((a.length:Int) != (b.length:Int))=false by simp [hg],zaw]
 have eqG:∀ x y:zbp,(x.Script == y.Script && (x.Part == y.Part && (x.Marker == y.Marker && (x.Level == y.Level && (x.Value == y.Value && (x.Stamp.Time == y.Stamp.Time && (x.Stamp.Source == y.Stamp.Source && (x.Stamp.Seq == y.Stamp.Seq && true)) && true))))))=decide (x=y):=by
  rintro ⟨a1,a2,a3,a4,a5,a6,a7,a8⟩ ⟨b1,b2,b3,b4,b5,b6,b7,b8⟩
  rw [zoE]; simp [and_assoc]
 have L:=zln a.length (fun j hj=>a[j]=b[j]'(by omega)) (fun i=>zjk a b i) zam ?_ ?_ ?_
 · rw [L,zkl (p:=∀ (j:Nat) (hj:j < a.length),a[j]=b[j]'(by omega)) (q:=a=b)]; constructor
   · intro h; exact zoX hg (fun i h1 _=>h i h1)
   · intro h; subst h; intros; rfl
 · refine zmn _ _ _ ?_; simp (disch:=omega) only [zap,zaT]; rfl
 · intro i hi hn; refine zmn _ _ _ ?_; simp (disch:=omega) only [zap,zaF,zan,za4,zft,zaC hi,zaC (show i < b.length by omega),zaY,eqG]; rw [decide_eq_false hn,zcx,zaI]; rfl
 · intro i hi y hn hk; refine zmn _ _ _ ?_; simp (disch:=omega) only [zap,zaF,zan,za4,zft,zaC hi,zaC (show i < b.length by omega),zaY,eqG]; rw [decide_eq_true hn,zbO,zaw,w6Q]; exact hk
set_option maxRecDepth 20000
theorem c_counts (m:zbw) (id n:Int) (hl:m.Given.length≤1000000):cw zkm [.agg (zbM m),I id,I n] []=some (zam (zoG m id n)):=by
 refine zxS m id n ?_; rw [zwP m n 0 hl,zk4]; unfold zoG
 have hl2:(zjL m n 0).length≤1000000:=by have:(zjL m n 0).length≤m.Given.length:=List.length_filter_le _ _; omega
 generalize zjL m n 0=l at *; rw [← zuk]; refine zfK l (fun g=>g.Marker == id && g.Stamp.Time == 940) (fun i=>zgd id l i) (fun o=>zam o.isSome) ?_ ?_ ?_
 · exact zlA _ _ _ (by simp (disch:=omega) only [zap,zaT]; rfl)
 · intro i hi h; simp only [zbK] at h; refine zlA _ _ _ ?_; rw [zap,zaF (by omega),cPQ,cPQ,za4,zb5,zft,zaC hi,zaY,h.1,h.2,zaI,zaI]; rfl
 · intro i hi y h hk; refine zlA _ _ _ ?_; rw [zap,zaF (by omega),cPQ,cPQ,za4,zb5,zft,zaC hi,zaY,w6Q]
   cases h1:(l[i].Marker == id) with
   | false=>rw [zaw]; exact hk
   | true=>rw [h1,zhb] at h; rw [h,zaI,zaw]; exact hk
theorem zrf (t:List Int) (u:Int) (hu:0≤u∧u≤255):cw zjh [.sl 1 (List.map zak t),.v (.int .u8 u)] []=some (zam true):=by
 refine zoh t u ?_; rw [c_Light,zai]; by_cases ht:(t.length:Int)≤600
 case neg=>rw [decide_eq_false ht,zcx,zaI,c_sane,zai]; rfl
 rw [decide_eq_true ht,zbO,zaw,c_Roll,zwV]; obtain ⟨s,d1,e1,hs,hd1⟩:=c_Setup ⟨t,0⟩ ⟨by simp,by show t.length≤600; omega⟩; obtain ⟨l,d2,e2,hl,hpl,hd2⟩:=c_FullK d1 s 50 hd1 hs (by omega); rw [e1,zqZ]; dsimp only; rw [e2,zrR]; dsimp only; have hok:=hs.ok; have E:Early s l:=⟨hok,hl,hpl⟩
 have hpg:∀ e∈l,e.Pages.length≤1000000:=fun e he=>by have:=(hpl e he).1; omega
 have few:FewEv l:=few_of (by omega) hpg
 have fewA:∀ post:List zab,post.length≤2→(∀ e∈post,e.Pages.length≤1000000)→FewEv (l++post):=fun post hp hq=>few_of (by rw [zep]; omega) (fun e he=>by
  rcases zbF.1 he with h | h
  · exact hpg e h
  · exact hq e h)
 refine zh4 (zbx (D:=zb3) (x:=((foldS s l,0),l)) (zo7 hok few) _) ?_; dsimp only; have hm:=hs.markers; have hm1:=hm.1; have hm2:=hm.2.1; rw [zap,w6Q,cPQ]; have hm0:0≤u.tmod (s.Markers.length:Int):=Int.tmod_nonneg _ hu.1; have hmu:u.tmod (s.Markers.length:Int) < s.Markers.length:=zvF u (by omega); have hlt:(u.tmod (s.Markers.length:Int)).toNat < s.Markers.length:=by omega
 rw [zan hm0,zfJ,zaC hlt,zaY]; have hxm:=zbg hlt; generalize s.Markers[(u.tmod (s.Markers.length:Int)).toNat]=mk at hxm; have hid:1≤mk.ID∧mk.ID≤99:=(hok.markers.2.1 mk hxm).1.1; have fewB:FewEv (l++[endE mk.ID]):=fewA _ (by simp) (by simp [endE]); have fewC:FewEv (l++[beginE mk.ID]):=fewA _ (by simp) (by simp [beginE]); have row:∀ e:zab,∀ post:List zab,List.map zaa l++(List.map zaa (e :: post))=List.map zaa (l++e :: post):=fun e post=>by simp
 rw [cPQ,zan (by simp only [zf3,zap]; omega),zan rfl,zan (by simp only [zf3,zap]; omega),zmC]; refine zh4 (zbx (D:=zb3) (x:=((foldS s (l++[endE mk.ID]),0),l++[endE mk.ID])) (by have c:=zo7 hok fewB; rw [zf9] at c; exact c) _) ?_; rw [cPQ,zan (by simp only [zap]; omega),zan rfl,zan (by simp only [zap]; omega)]; refine zh4 (zbx (D:=zb3) (x:=((foldS s (l++[beginE mk.ID]),0),l++[beginE mk.ID])) (by have c:=zo7 hok fewC; rw [zf9] at c; exact c) _) ?_; dsimp only; have hla:=zpS hok few; have hlb:=zpS hok fewB; obtain ⟨g1,g2⟩:=end_fold E hid; obtain ⟨d0,hd0⟩:=seats_some hxm; have hd:∃ d,(walkS s (canonS l)).1 mk.ID.toNat=some d:=by rw [zoM,hd0]; exact ⟨_,rfl⟩
 obtain ⟨d,hd⟩:=hd; simp only [bne_self_eq_false,zaw]; rw [c_given _ _ hla.1,zai,zbE g1.symm,zbO,zaw,begin_fold E hid,c_rSame _ _ hla.1 hla.2,zai,zbE rfl,zbO,zaw,zap,zap,g2,show (((foldS s l).Suspensions.length:Int) != ((foldS s l).Suspensions.length:Int))=false by simp,zaw,zk3 _ _ _ hla.2,zai,zk3 _ _ _ hlb.2,zai,zk3 _ _ _ hlb.2,zai,was_at E hid hd,end_free E hid hd,end_was E hid hd,zaw,show (!d.watch.Suspended == d.watch.Suspended)=false by cases d.watch.Suspended <;> rfl,zaw]; have hms:s.Markers.length≤1000000:=by omega
 have hds:s.Seeds.length≤1000000:=by have:=hok.seeds; omega
 have hdm:∀ y∈s.Seeds,y.Marks.length≤1000000:=fun y hy=>by obtain ⟨k,p,h1,h2⟩:=hok.seed y hy; obtain ⟨x,h3,h4⟩:=Option.bind_eq_some_iff.1 h1; have:=(hok.okPaper (zgV h4).1).2.2.1; have:=h2.1; omega
 have hsl:=hs.scripts.2.2; generalize hA:foldS s l=m at *; refine zdJ s.Scripts (fun i _=>zcD (s,d1) (l,d2) ((m,0),l) mk d.watch.Suspended i=some (zam true)) ?_ ?_
 · refine zhW _ _ _ _ _ _ ?_; dsimp only; rw [zap,zaT (by omega),c_sane,zai]; rfl
 · intro i hi r hr ih; refine zhW _ _ _ _ _ _ ?_; dsimp only; rw [zap,zaF (by omega),cPQ,za4,zle,zaC hi,zaY,ztq _ _ hds hdm,zqe,w6Q]
   cases hsd:seedOf s.Seeds s.Scripts[i].Number with
   | some q=>simp only [seedR,zaI]; exact ih
   | none =>
   simp only [seedR,zaw]; rw [zvX _ _ _ hms hok.short2,zai]; by_cases hel:Elig s.Markers mk.ID s.Scripts[i]
   case neg=>rw [zbG hel,zcx,zaI]; exact ih
   rw [zbE hel,zbO,zaw]; have hxs:=zbg hi; generalize s.Scripts[i]=x at *; obtain ⟨k,p,hk,_,hsc,hdp⟩:=ofScript hs hxs; obtain ⟨q,hf⟩:=late_fits hok hxs hel ⟨k,p,hk,hdp.2.2.2⟩; have hxn:=hok.scripts.2.1 x hxs; have hv:eventB (lateE mk.ID x.Number x.Pages)=true:=lateE_ok hid (by unfold zoO at hxn; omega) (by have:=hsc.2.2.2.2.2.1; omega) (fun y hy=>by have:=hsc.2.2.2.2.2.2.1 y hy; omega); have hpx:x.Pages.length≤1000000:=by have:=hsc.2.2.2.2.2.1; omega
   have fewY:FewEv (l++[endE mk.ID,lateE mk.ID x.Number x.Pages]):=fewA _ (by simp) (by simp [endE,lateE]; exact hpx); have fewZ:FewEv (l++[lateE mk.ID x.Number x.Pages]):=fewA _ (by simp) (by simp [lateE]; exact hpx); obtain ⟨q1,q2⟩:=zAy E hid hd hv hf hsd; rw [cPQ,zan (by simp only [zf3,zap]; omega),zan trivial,zan (by simp only [zf3,zap]; omega),zmC]; refine zh4 (zbx (D:=zb3) (x:=((foldS s (l++[endE mk.ID,lateE mk.ID x.Number x.Pages]),0),l++[endE mk.ID,lateE mk.ID x.Number x.Pages])) (by have c:=zo7 hok fewY; rw [zf9] at c; exact c) _) ?_; rw [cPQ,zan (by simp only [zap]; omega),zan trivial,zan (by simp only [zap]; omega)]; refine zh4 (zbx (D:=zb3) (x:=((foldS s (l++[lateE mk.ID x.Number x.Pages]),0),l++[lateE mk.ID x.Number x.Pages])) (by have c:=zo7 hok fewZ; rw [zf9] at c; exact c) _) ?_; simp only [bne_self_eq_false,zaw]; rw [c_counts _ _ _ (zpS hok fewY).1,zai,q1,c_counts _ _ _ (zpS hok fewZ).1,zai,q2]; refine zh4 (zaw _ _) ?_
   cases hw:d.watch.Suspended with
   | true=>rw [hw] at ih; exact ih
   | false=>rw [hw] at ih; exact ih
end Go.Proofs.YtikogkgdkdmljaaGreat
namespace Go.Ab
open Go.RowKit
abbrev Old (w:World):Nat→Prop:=fun g=>g < w.heap.size
def Rd (P:Program) (w:World) (t:TypeId) (n:Nat) {T:Type} (nT:T→List AV):Prop:=
 P.cellsOf t=n∧(∀ v,(nT v).length=n)∧∀ (H:Type) (enc:TypeId×Value→H) (base:Nat) (spare:Nat→Bool) (held:Bool) (fuel:Nat) (cs:List Value) (x:DataW H×List MemPlace),DataW.trod enc P w base spare held fuel t cs=some x→∃ v:T,cs.length=n∧∀ (j:Nat) (c:AV) (y:Value),(nT v)[j]?=some c→cs[j]?=some y→CRel (Old w) w c y∧y.oneCell'=true
theorem rd_int {P:Program} {w:World} {t:TypeId} {k:IntKind} (hc:P.cellsOf t=1) (ht:P.underlying t=some (.int k)):Rd P w t 1 (fun n:Int=>[AV.v (.int k n)]):=by
 refine ⟨hc,fun _=>rfl,fun H enc base spare held fuel cs x h=>?_⟩; obtain ⟨n,rfl,_,_⟩:=DataW.trod_int ht h; refine ⟨n,rfl,fun j c y h1 h2=>?_⟩
 cases j with
 | zero=>simp at h1 h2; subst h1; subst h2; exact ⟨.v _,rfl⟩
 | succ j=>simp at h1
theorem list_of {T:Type} {R:Nat→T→Prop}:∀ n:Nat,(∀ i,i < n→∃ v,R i v)→∃ l:List T,l.length=n∧∀ i v,l[i]?=some v→R i v
 | 0,_=>⟨[],rfl,fun i v h=>by simp at h⟩
 | n+1,h=>by
   obtain ⟨l,h1,h2⟩:=list_of n (fun i hi=>h i (by omega)); obtain ⟨v,hv⟩:=h n (by omega); refine ⟨l++[v],by simp [h1],fun i u hu=>?_⟩; by_cases hi:i < n
   · rw [zmE (by omega)] at hu; exact h2 i u hu
   · have hlt:=(zbs.1 hu).1; simp at hlt; have:i=l.length:=by omega
     subst this; rw [List.getElem?_append_right (by omega)] at hu; simp at hu; subst hu; rw [h1]; exact hv
theorem rd_slice {P:Program} {w:World} {t e:TypeId} {n:Nat} {T:Type} {nT:T→List AV} (hc:P.cellsOf t=1) (ht:P.underlying t=some (.slice e)) (hn:0 < n) (he:Rd P w e n nT):Rd P w t 1 (fun l:List T=>[AV.sl n (l.map nT)]):=by
 refine ⟨hc,fun _=>rfl,fun H enc base spare held fuel cs x h=>?_⟩
 have done:∀ (l:List T) (y:Value),CRel (Old w) w (.sl n (l.map nT)) y→y.oneCell'=true→∃ v:List T,[y].length=1∧∀ (j:Nat) (c:AV) (z:Value),[AV.sl n (v.map nT)][j]?=some c→[y][j]?=some z→CRel (Old w) w c z∧z.oneCell'=true:=by
  intro l y hy h1; refine ⟨l,rfl,fun j c z hj hz=>?_⟩
  cases j with
  | zero=>simp at hj hz; subst hj; subst hz; exact ⟨hy,h1⟩
  | succ j=>simp at hj
 rcases DataW.trod_slice ht h with ⟨rfl,_⟩ | ⟨a,len,cap,elems,rest,m,rfl,rfl,_,hb,hl,_,hlen,hel,_,_⟩
 · exact done [] _ (CRel.nil_sl n) rfl
 · have each:∀ i,i < len→∃ v:T,a.block < w.heap.size∧∀ (j:Nat) (c:AV),(nT v)[j]?=some c→∃ y,w.cell? (a.add (i*n+j))=some y∧CRel (Old w) w c y∧y.oneCell'=true:=by
    intro i hi; have h1:=hel i hi; rw [zaC (by omega),he.1] at h1; obtain ⟨cs',h2,h3⟩:=Option.bind_eq_some_iff.1 h1; obtain ⟨v,h4,h5⟩:=he.2.2 H enc base spare held m cs' _ h3; obtain ⟨h6,h7,h8⟩:=World.cells?_some h2; have hblk:=World.cells?_block h2 hn; rw [zhR] at hblk; refine ⟨v,hblk,fun j c hj=>?_⟩; have hjn:j < n:=by have:=(zbs.1 hj).1; rw [he.2.1] at this; exact this
    have h9:=h8 j hjn; rw [Go.Addr.add_add] at h9; have h10:cs'[j]?=some (cs'[j]'(by omega)):=zaC (by omega); refine ⟨cs'[j]'(by omega),by rw [h9,h10],h5 j c _ hj h10⟩
   obtain ⟨l,hll,hlr⟩:=list_of len each; refine done l _ (.sl n _ (some a) len cap (fun i j=>(w.cell? (a.add (i*n+j))).getD undef) (by simp; omega) hl (fun cs hcs=>by obtain ⟨v,_,rfl⟩:=zbC.1 hcs; exact he.2.1 v) ?_ ?_) rfl
   · cases l with
     | nil=>left; rfl
     | cons v l'=>right; refine ⟨a,rfl,(hlr 0 v rfl).1,fun i j cs c h1 h2=>?_⟩; rw [zcR] at h1; obtain ⟨u,hu,rfl⟩:=Option.map_eq_some_iff.1 h1; obtain ⟨y,hy,hr,ho⟩:=(hlr i u hu).2 j c h2; rw [hy]; exact ⟨rfl,ho⟩
   · intro i j cs c h1 h2; rw [zcR] at h1; obtain ⟨u,hu,rfl⟩:=Option.map_eq_some_iff.1 h1; obtain ⟨y,hy,hr,ho⟩:=(hlr i u hu).2 j c h2; rw [hy]; exact hr
theorem arg_cell {P:Program} {w:World} {t:TypeId} {T:Type} {f:T→AV} (hr:Rd P w t 1 (fun v=>[f v])) {H:Type} {enc:TypeId×Value→H} {base:Nat} {spare:Nat→Bool} {held:Bool} {y:Value} (hy:y.cells.toList=[y]) {d:DataW H} {ps:List MemPlace}
  (h:DataW.Trod enc P w base spare held t y d ps) {κ:Kap} {D:Nat→Prop}:∃ v:T,VRel (Old w) κ D w (f v) y:=by
 obtain ⟨fuel,hf⟩:=h; rw [hy] at hf; obtain ⟨v,_,h2⟩:=hr.2.2 H enc base spare held fuel _ _ hf; exact ⟨v,.c (h2 0 _ _ rfl rfl).1⟩
end Go.Ab
end
