/- Values that are read from a world, as abstract values: for parameters of any plain type. -/
import Derived.Test.YtbhkcgaanaelfaaGreatAbTop
import Derived.OpenShut
import Derived.DataElems
import Derived.ChangeArms
namespace Go.Ab
open Go.RowKit
abbrev Old (w:World):Nat→Prop:=fun g=>g < w.heap.size
def Rd (P:Program) (w:World) (t:TypeId) (n:Nat) {T:Type} (nT:T→List AV):Prop:=
 P.cellsOf t=n∧(∀ v,(nT v).length=n) ∧
 ∀ (H:Type) (enc:TypeId×Value→H) (base:Nat) (spare:Nat→Bool) (held:Bool) (fuel:Nat) (cs:List Value) (x:DataW H×List MemPlace),DataW.trod enc P w base spare held fuel t cs=some x →
   ∃ v:T,cs.length=n∧∀ (j:Nat) (c:AV) (y:Value),(nT v)[j]?=some c→cs[j]?=some y→CRel (Old w) w c y∧y.oneCell'=true
theorem rd_int {P:Program} {w:World} {t:TypeId} {k:IntKind} (hc:P.cellsOf t=1) (ht:P.underlying t=some (.int k)):Rd P w t 1 (fun n:Int=>[AV.v (.int k n)]):=by
 refine ⟨hc,fun _=>rfl,fun H enc base spare held fuel cs x h=>?_⟩
 obtain ⟨n,rfl,_,_⟩:=DataW.trod_int ht h
 refine ⟨n,rfl,fun j c y h1 h2=>?_⟩
 cases j with
 | zero=>simp at h1 h2; subst h1; subst h2; exact ⟨.v _,rfl⟩
 | succ j=>simp at h1
theorem rd_map {P:Program} {w:World} {t:TypeId} {n:Nat} {T U:Type} {nT:T→List AV} {nU:U→List AV} (h:Rd P w t n nT) (g:T→U) (hg:∀ v,nU (g v)=nT v) (hl:∀ u,(nU u).length=n):Rd P w t n nU:=by
 refine ⟨h.1,hl,fun H enc base spare held fuel cs x hx=>?_⟩
 obtain ⟨v,h1,h2⟩:=h.2.2 H enc base spare held fuel cs x hx
 exact ⟨g v,h1,by rw [hg]; exact h2⟩
theorem list_of {T:Type} {R:Nat→T→Prop}:∀ n:Nat,(∀ i,i < n→∃ v,R i v)→∃ l:List T,l.length=n∧∀ i v,l[i]?=some v→R i v
 | 0,_=>⟨[],rfl,fun i v h=>by simp at h⟩
 | n+1,h=>by
   obtain ⟨l,h1,h2⟩:=list_of n (fun i hi=>h i (by omega))
   obtain ⟨v,hv⟩:=h n (by omega)
   refine ⟨l++[v],by simp [h1],fun i u hu=>?_⟩
   by_cases hi:i < n
   · rw [List.getElem?_append_left (by omega)] at hu
     exact h2 i u hu
   · have hlt:=(List.getElem?_eq_some_iff.1 hu).1
     simp at hlt
     have:i=l.length:=by omega
     subst this
     rw [List.getElem?_append_right (by omega)] at hu
     simp at hu
     subst hu
     rw [h1]
     exact hv
theorem rd_slice {P:Program} {w:World} {t e:TypeId} {n:Nat} {T:Type} {nT:T→List AV} (hc:P.cellsOf t=1) (ht:P.underlying t=some (.slice e)) (hn:0 < n) (he:Rd P w e n nT) :
  Rd P w t 1 (fun l:List T=>[AV.sl n (l.map nT)]):=by
 refine ⟨hc,fun _=>rfl,fun H enc base spare held fuel cs x h=>?_⟩
 have done:∀ (l:List T) (y:Value),CRel (Old w) w (.sl n (l.map nT)) y→y.oneCell'=true→∃ v:List T,[y].length=1∧∀ (j:Nat) (c:AV) (z:Value),[AV.sl n (v.map nT)][j]?=some c→[y][j]?=some z→CRel (Old w) w c z∧z.oneCell'=true:=by
  intro l y hy h1
  refine ⟨l,rfl,fun j c z hj hz=>?_⟩
  cases j with
  | zero=>simp at hj hz; subst hj; subst hz; exact ⟨hy,h1⟩
  | succ j=>simp at hj
 rcases DataW.trod_slice ht h with ⟨rfl,_⟩ | ⟨a,len,cap,elems,rest,m,rfl,rfl,_,hb,hl,_,hlen,hel,_,_⟩
 · exact done [] _ (CRel.nil_sl n) rfl
 · have each:∀ i,i < len→∃ v:T,a.block < w.heap.size∧∀ (j:Nat) (c:AV),(nT v)[j]?=some c→∃ y,w.cell? (a.add (i*n+j))=some y∧CRel (Old w) w c y∧y.oneCell'=true:=by
    intro i hi
    have h1:=hel i hi
    rw [List.getElem?_eq_getElem (by omega),he.1] at h1
    obtain ⟨cs',h2,h3⟩:=Option.bind_eq_some_iff.1 h1
    obtain ⟨v,h4,h5⟩:=he.2.2 H enc base spare held m cs' _ h3
    obtain ⟨h6,h7,h8⟩:=World.cells?_some h2
    have hblk:=World.cells?_block h2 hn
    rw [zhn] at hblk
    refine ⟨v,hblk,fun j c hj=>?_⟩
    have hjn:j < n:=by have:=(List.getElem?_eq_some_iff.1 hj).1; rw [he.2.1] at this; exact this
    have h9:=h8 j hjn
    rw [Go.Addr.add_add] at h9
    have h10:cs'[j]?=some (cs'[j]'(by omega)):=List.getElem?_eq_getElem (by omega)
    refine ⟨cs'[j]'(by omega),by rw [h9,h10],h5 j c _ hj h10⟩
   obtain ⟨l,hll,hlr⟩:=list_of len each
   refine done l _ (.sl n _ (some a) len cap (fun i j=>(w.cell? (a.add (i*n+j))).getD undef) (by simp; omega) hl (fun cs hcs=>by obtain ⟨v,_,rfl⟩:=List.mem_map.1 hcs; exact he.2.1 v) ?_ ?_) rfl
   · cases l with
     | nil=>left; rfl
     | cons v l' =>
       right
       refine ⟨a,rfl,(hlr 0 v rfl).1,fun i j cs c h1 h2=>?_⟩
       rw [List.getElem?_map] at h1
       obtain ⟨u,hu,rfl⟩:=Option.map_eq_some_iff.1 h1
       obtain ⟨y,hy,hr,ho⟩:=(hlr i u hu).2 j c h2
       rw [hy]
       exact ⟨rfl,ho⟩
   · intro i j cs c h1 h2
     rw [List.getElem?_map] at h1
     obtain ⟨u,hu,rfl⟩:=Option.map_eq_some_iff.1 h1
     obtain ⟨y,hy,hr,ho⟩:=(hlr i u hu).2 j c h2
     rw [hy]
     exact hr
def RdF (P:Program) (w:World) (fs:List Field) (off n:Nat) {T:Type} (nT:T→List AV):Prop:=
 (∀ v,(nT v).length=n)∧∀ (H:Type) (enc:TypeId×Value→H) (base:Nat) (spare:Nat→Bool) (held:Bool) (fuel:Nat) (cs:List Value),off+n≤cs.length →
  (∀ f∈fs,∃ x,DataW.trod enc P w base spare held fuel f.type ((cs.drop f.offset).take (P.cellsOf f.type))=some x) →
  ∃ v:T,∀ (j:Nat) (c:AV) (y:Value),(nT v)[j]?=some c→cs[off+j]?=some y→CRel (Old w) w c y∧y.oneCell'=true
theorem rdf_nil {P:Program} {w:World} {off:Nat}:RdF P w [] off 0 (fun _:Unit=>[]):=
 ⟨fun _=>rfl,fun _ _ _ _ _ _ _ _ _=>⟨(),fun j c y h=>by simp at h⟩⟩
theorem zmY {P:Program} {w:World} {f:Field} {fs:List Field} {off n m:Nat} {A B:Type} {nA:A→List AV} {nB:B→List AV} (hA:Rd P w f.type n nA) (ho:f.offset=off) (hB:RdF P w fs (off+n) m nB) :
  RdF P w (f :: fs) off (n+m) (fun v:A×B=>nA v.1++nB v.2):=by
 refine ⟨fun v=>by simp [hA.2.1,hB.1],fun H enc base spare held fuel cs hl h=>?_⟩
 obtain ⟨x,hx⟩:=h f (by simp)
 obtain ⟨a,h1,h2⟩:=hA.2.2 H enc base spare held fuel _ x hx
 obtain ⟨b,h3⟩:=hB.2 H enc base spare held fuel cs (by omega) (fun g hg=>h g (by simp [hg]))
 refine ⟨(a,b),fun j c y hj hy=>?_⟩
 by_cases hjn:j < n
 · rw [List.getElem?_append_left (by rw [hA.2.1]; exact hjn)] at hj
   refine h2 j c y hj ?_
   rw [List.getElem?_take_of_lt (by rw [hA.1]; exact hjn),List.getElem?_drop,ho]
   exact hy
 · rw [List.getElem?_append_right (by rw [hA.2.1]; omega),hA.2.1] at hj
   refine h3 (j - n) c y hj ?_
   rw [show off+n+(j - n)=off+j by omega]
   exact hy
theorem zqX {P:Program} {w:World} {t:TypeId} {fs:Array Field} {n:Nat} {T:Type} {nT:T→List AV} (hc:P.cellsOf t=n) (ht:P.underlying t=some (.struct fs)) (hf:RdF P w fs.toList 0 n nT):Rd P w t n nT:=by
 refine ⟨hc,hf.1,fun H enc base spare held fuel cs x h=>?_⟩
 obtain ⟨xs,m,rfl,_,h2,h3,h4⟩:=DataW.trod_struct ht h
 obtain ⟨v,hv⟩:=hf.2 H enc base spare held m cs (by omega) (fun f hfm=>by
  obtain ⟨i,hi,hif⟩:=List.mem_iff_getElem.1 hfm
  have hi':i < fs.size:=by simpa using hi
  have:=h4 i f (by rw [Array.getElem?_eq_getElem hi']; simpa using hif)
  rw [List.getElem?_eq_getElem (by omega)] at this
  exact ⟨_,this⟩)
 exact ⟨v,by omega,by simpa using hv⟩
theorem arg_cell {P:Program} {w:World} {t:TypeId} {T:Type} {f:T→AV} (hr:Rd P w t 1 (fun v=>[f v])) {H:Type} {enc:TypeId×Value→H} {base:Nat} {spare:Nat→Bool} {held:Bool} {y:Value} (hy:y.cells.toList=[y]) {d:DataW H} {ps:List MemPlace}
  (h:DataW.Trod enc P w base spare held t y d ps) {κ:Kap} {D:Nat→Prop}:∃ v:T,VRel (Old w) κ D w (f v) y:=by
 obtain ⟨fuel,hf⟩:=h
 rw [hy] at hf
 obtain ⟨v,_,h2⟩:=hr.2.2 H enc base spare held fuel _ _ hf
 exact ⟨v,.c (h2 0 _ _ rfl rfl).1⟩
theorem arg_agg {P:Program} {w:World} {t:TypeId} {n:Nat} {T:Type} {nT:T→List AV} (hr:Rd P w t n nT) {H:Type} {enc:TypeId×Value→H} {base:Nat} {spare:Nat→Bool} {held:Bool} {vs:Array Value} {d:DataW H} {ps:List MemPlace}
  (h:DataW.Trod enc P w base spare held t (.agg vs) d ps) {κ:Kap} {D:Nat→Prop}:∃ v:T,VRel (Old w) κ D w (.agg (nT v)) (.agg vs):=by
 obtain ⟨fuel,hf⟩:=h
 obtain ⟨v,h1,h2⟩:=hr.2.2 H enc base spare held fuel _ _ hf
 have hvs:(Value.agg vs).cells.toList=vs.toList:=rfl
 rw [hvs] at h1 h2
 have hlen:vs.size=n:=by simpa using h1
 have hl2:=hr.2.1 v
 refine ⟨v,.c (.agg _ _ (by omega) ?_ ?_)⟩
 · intro x hx
   obtain ⟨i,hi,rfl⟩:=Array.mem_iff_getElem.1 hx
   exact (h2 i ((nT v)[i]'(by omega)) _ (List.getElem?_eq_getElem _) (by simp [hi])).2
 · intro j c x hj hx
   exact (h2 j c x hj (by simpa using hx)).1
end Go.Ab
