/- Values that are read from a world, as abstract values: for parameters of any plain type. -/
import Derived.Test.YtdclabgakicjeaaGreatDoorAb2
import Derived.OpenShut
import Derived.DataElems
import Derived.ChangeArms
import Derived.Test.YtdclabgakicjeaaGreatDoorRows
import Derived.Test.YtdclabgakicjeaaGreatDoorXSp
import Derived.Test.YtdclabgakicjeaaGreatDoorK0
import Derived.Test.YtdclabgakicjeaaGreatDoorXAnn
import Derived.Lib.AppendIntMem
import Derived.Test.YtdclabgakicjeaaGreatDoorXCs
import Derived.Control
set_option linter.unusedSimpArgs false
set_option linter.unusedVariables false
set_option linter.unusedSectionVars false
noncomputable section
namespace Go.Ab
open Go.RowKit
theorem w6Q {n:Int} (h1:-9223372036854775808≤n:=by omega) (h2:n < 9223372036854775808:=by omega):w64 n=n:=w64_id h1 h2
theorem iNQ {c:Prop} [Decidable c] {α:Type} {t e:α} (h:¬c:=by omega):ite c t e=e:=if_neg h
theorem iPQ {c:Prop} [Decidable c] {α:Type} {t e:α} (h:c:=by omega):ite c t e=t:=if_pos h
theorem iNs {c:Prop} [Decidable c] {α:Type} {t e:α} (h:¬c:=by simp):ite c t e=e:=if_neg h
theorem cPQ {p:Prop} {β:Type} {x:Option β} (h:p:=by omega):chk p x=x:=zai h x
abbrev Old (w:World):Nat→Prop:=fun g=>g < w.heap.size
def Rd (P:Program) (w:World) (t:TypeId) (n:Nat) {T:Type} (nT:T→List AV):Prop:=
 P.cellsOf t=n∧(∀ v,(nT v).length=n)∧∀ (H:Type) (enc:TypeId×Value→H) (base:Nat) (spare:Nat→Bool) (held:Bool) (fuel:Nat) (cs:List Value) (x:DataW H×List MemPlace),DataW.trod enc P w base spare held fuel t cs=some x→∃ v:T,cs.length=n∧∀ (j:Nat) (c:AV) (y:Value),(nT v)[j]?=some c→cs[j]?=some y→CRel (Old w) w c y∧y.oneCell'=true
theorem rd_int {P:Program} {w:World} {t:TypeId} {k:IntKind} (hc:P.cellsOf t=1) (ht:P.underlying t=some (.int k)):Rd P w t 1 (fun n:Int=>[AV.v (.int k n)]):=by
 refine ⟨hc,fun _=>rfl,fun H enc base spare held fuel cs x h=>?_⟩; obtain ⟨n,rfl,_,_⟩:=DataW.trod_int ht h; refine ⟨n,rfl,fun j c y h1 h2=>?_⟩
 cases j with
 | zero=>simp at h1 h2; subst h1; subst h2; exact ⟨.v _,rfl⟩
 | succ j=>simp at h1
theorem list_of {T:Type} {R:Nat→T→Prop}:∀ n:Nat,(∀ i,i < n→∃ v,R i v)→∃ l:List T,l.length=n∧∀ i v,l[i]?=some v→R i v
 | 0,_=>⟨[],rfl,fun i v h=>by simp at h⟩
 | n+1,h=>by
   obtain ⟨l,h1,h2⟩:=list_of n (fun i hi=>h i (by omega)); obtain ⟨v,hv⟩:=h n (by omega); refine ⟨l++[v],by simp [h1],fun i u hu=>?_⟩; by_cases hi:i < n
   · rw [List.getElem?_append_left (by omega)] at hu; exact h2 i u hu
   · have hlt:=(List.getElem?_eq_some_iff.1 hu).1; simp at hlt; have:i=l.length:=by omega
     subst this; rw [List.getElem?_append_right (by omega)] at hu; simp at hu; subst hu; rw [h1]; exact hv
theorem rd_slice {P:Program} {w:World} {t e:TypeId} {n:Nat} {T:Type} {nT:T→List AV} (hc:P.cellsOf t=1) (ht:P.underlying t=some (.slice e)) (hn:0 < n) (he:Rd P w e n nT):Rd P w t 1 (fun l:List T=>[AV.sl n (l.map nT)]):=by
 refine ⟨hc,fun _=>rfl,fun H enc base spare held fuel cs x h=>?_⟩
 have done:∀ (l:List T) (y:Value),CRel (Old w) w (.sl n (l.map nT)) y→y.oneCell'=true→∃ v:List T,[y].length=1∧∀ (j:Nat) (c:AV) (z:Value),[AV.sl n (v.map nT)][j]?=some c→[y][j]?=some z→CRel (Old w) w c z∧z.oneCell'=true:=by
  intro l y hy h1; refine ⟨l,rfl,fun j c z hj hz=>?_⟩
  cases j with
  | zero=>simp at hj hz; subst hj; subst hz; exact ⟨hy,h1⟩
  | succ j=>simp at hj
 rcases DataW.trod_slice ht h with ⟨rfl,_⟩ | ⟨a,len,cap,elems,rest,m,rfl,rfl,_,hb,hl,_,hlen,hel,_,_⟩
 · exact done [] _ (CRel.nil_sl n) rfl
 · have each:∀ i,i < len→∃ v:T,a.block < w.heap.size∧∀ (j:Nat) (c:AV),(nT v)[j]?=some c→∃ y,w.cell? (a.add (i*n+j))=some y∧CRel (Old w) w c y∧y.oneCell'=true:=by
    intro i hi; have h1:=hel i hi; rw [List.getElem?_eq_getElem (by omega),he.1] at h1; obtain ⟨cs',h2,h3⟩:=Option.bind_eq_some_iff.1 h1; obtain ⟨v,h4,h5⟩:=he.2.2 H enc base spare held m cs' _ h3; obtain ⟨h6,h7,h8⟩:=World.cells?_some h2; have hblk:=World.cells?_block h2 hn; rw [zeg] at hblk; refine ⟨v,hblk,fun j c hj=>?_⟩; have hjn:j < n:=by have:=(List.getElem?_eq_some_iff.1 hj).1; rw [he.2.1] at this; exact this
    have h9:=h8 j hjn; rw [Go.Addr.add_add] at h9; have h10:cs'[j]?=some (cs'[j]'(by omega)):=List.getElem?_eq_getElem (by omega); refine ⟨cs'[j]'(by omega),by rw [h9,h10],h5 j c _ hj h10⟩
   obtain ⟨l,hll,hlr⟩:=list_of len each; refine done l _ (.sl n _ (some a) len cap (fun i j=>(w.cell? (a.add (i*n+j))).getD undef) (by simp; omega) hl (fun cs hcs=>by obtain ⟨v,_,rfl⟩:=List.mem_map.1 hcs; exact he.2.1 v) ?_ ?_) rfl
   · cases l with
     | nil=>left; rfl
     | cons v l'=>right; refine ⟨a,rfl,(hlr 0 v rfl).1,fun i j cs c h1 h2=>?_⟩; rw [List.getElem?_map] at h1; obtain ⟨u,hu,rfl⟩:=Option.map_eq_some_iff.1 h1; obtain ⟨y,hy,hr,ho⟩:=(hlr i u hu).2 j c h2; rw [hy]; exact ⟨rfl,ho⟩
   · intro i j cs c h1 h2; rw [List.getElem?_map] at h1; obtain ⟨u,hu,rfl⟩:=Option.map_eq_some_iff.1 h1; obtain ⟨y,hy,hr,ho⟩:=(hlr i u hu).2 j c h2; rw [hy]; exact hr
theorem arg_cell {P:Program} {w:World} {t:TypeId} {T:Type} {f:T→AV} (hr:Rd P w t 1 (fun v=>[f v])) {H:Type} {enc:TypeId×Value→H} {base:Nat} {spare:Nat→Bool} {held:Bool} {y:Value} (hy:y.cells.toList=[y]) {d:DataW H} {ps:List MemPlace}
  (h:DataW.Trod enc P w base spare held t y d ps) {κ:Kap} {D:Nat→Prop}:∃ v:T,VRel (Old w) κ D w (f v) y:=by
 obtain ⟨fuel,hf⟩:=h; rw [hy] at hf; obtain ⟨v,_,h2⟩:=hr.2.2 H enc base spare held fuel _ _ hf; exact ⟨v,.c (h2 0 _ _ rfl rfl).1⟩
end Go.Ab
namespace Go.Ab
open Go.RowKit Go.Proofs.YtdclabgakicjeaaGreatDoor
abbrev bulk {H:Type} (d:DataW H):Nat:=Rows.uptoBulk d
abbrev bulks {H:Type} (l:List (DataW H)):Nat:=Rows.uptoBulkAll l
def RdQ (P:Program) (w:World) (t:TypeId) (n:Nat) {T:Type} (nT:T→List AV) (Q:T→Prop) (S:T→Nat):Prop:=
 P.cellsOf t=n∧(∀ v,(nT v).length=n)∧∀ (H:Type) (enc:TypeId×Value→H) (base:Nat) (spare:Nat→Bool) (held:Bool) (fuel:Nat) (cs:List Value) (x:DataW H×List MemPlace),DataW.trod enc P w base spare held fuel t cs=some x→∃ v:T,cs.length=n∧Q v∧S v≤bulk x.1∧∀ (j:Nat) (c:AV) (y:Value),(nT v)[j]?=some c→cs[j]?=some y→CRel (Old w) w c y∧y.oneCell'=true
theorem bulk_pos {H:Type} (d:DataW H):1≤bulk d:=by
 cases d with
 | lit l=>cases l <;> simp [bulk,Rows.uptoBulk]
 | nil=>simp [bulk,Rows.uptoBulk]
 | ptr d=>simp [bulk,Rows.uptoBulk]
 | slice elems spare=>simp [bulk,Rows.uptoBulk]
 | agg parts=>simp [bulk,Rows.uptoBulk]
 | iface t d=>simp [bulk,Rows.uptoBulk]
 | map entries=>simp [bulk,Rows.uptoBulk]
 | held h=>simp [bulk,Rows.uptoBulk]
theorem rq_int {P:Program} {w:World} {t:TypeId} (hc:P.cellsOf t=1) (ht:P.underlying t=some (.int .i64)):RdQ P w t 1 (fun n:Int=>[AV.v (.int .i64 n)]) (fun n=>-9223372036854775808≤n∧n≤9223372036854775807) (fun _=>1):=by
 refine ⟨hc,fun _=>rfl,fun H enc base spare held fuel cs x h=>?_⟩; obtain ⟨n,rfl,_,hw⟩:=DataW.trod_int ht h; refine ⟨n,rfl,?_,bulk_pos _,fun j c y h1 h2=>?_⟩
 · have h2:(decide (IntKind.min .i64≤n) && decide (n≤IntKind.max .i64))=true:=hw; rw [Bool.and_eq_true,decide_eq_true_eq,decide_eq_true_eq] at h2; exact h2
 · cases j with
   | zero=>simp at h1 h2; subst h1; subst h2; exact ⟨.v _,rfl⟩
   | succ j=>simp at h1
theorem rq_map {P:Program} {w:World} {t:TypeId} {n:Nat} {T U:Type} {nT:T→List AV} {nU:U→List AV} {Q:T→Prop} {S:T→Nat} {Q':U→Prop} {S':U→Nat} (h:RdQ P w t n nT Q S) (g:T→U) (hg:∀ v,nU (g v)=nT v) (hl:∀ u,(nU u).length=n) (hQ:∀ v,Q v→Q' (g v)) (hS:∀ v,S' (g v)≤S v):RdQ P w t n nU Q' S':=by refine ⟨h.1,hl,fun H enc base spare held fuel cs x hx=>?_⟩; obtain ⟨v,h1,h2,h3,h4⟩:=h.2.2 H enc base spare held fuel cs x hx; exact ⟨g v,h1,hQ v h2,Nat.le_trans (hS v) h3,by rw [hg]; exact h4⟩
theorem sum_bulk {H T:Type} (S:T→Nat):∀ (l:List T) (es:List (DataW H×List MemPlace)),l.length=es.length→(∀ (i:Nat) (v:T) (e:DataW H×List MemPlace),l[i]?=some v→es[i]?=some e→S v≤bulk e.1)→(l.map S).sum≤bulks (es.map (·.1))
 | [],[],_,_=>by simp [bulks,Rows.uptoBulkAll]
 | v :: l,e :: es,hl,h=>by have h0:=h 0 v e rfl rfl; have ih:=sum_bulk S l es (by simpa using hl) (fun i a b ha hb=>h (i+1) a b (by simpa using ha) (by simpa using hb)); simp only [List.map_cons,List.sum_cons,bulks,Rows.uptoBulkAll] at ih ⊢; simp only [bulk] at h0; omega
 | [],_ :: _,hl,_=>by simp at hl
 | _ :: _,[],hl,_=>by simp at hl
theorem zkE {P:Program} {w:World} {t e:TypeId} {n:Nat} {T:Type} {nT:T→List AV} {Q:T→Prop} {S:T→Nat} (hc:P.cellsOf t=1) (ht:P.underlying t=some (.slice e)) (hn:0 < n) (he:RdQ P w e n nT Q S):RdQ P w t 1 (fun l:List T=>[AV.sl n (l.map nT)]) (fun l=>∀ v∈l,Q v) (fun l=>(l.map S).sum):=by
 refine ⟨hc,fun _=>rfl,fun H enc base spare held fuel cs x h=>?_⟩
 have done:∀ (l:List T) (y:Value),CRel (Old w) w (.sl n (l.map nT)) y→y.oneCell'=true→∀ (j:Nat) (c:AV) (z:Value),[AV.sl n (l.map nT)][j]?=some c→[y][j]?=some z→CRel (Old w) w c z∧z.oneCell'=true:=by
  intro l y hy h1 j c z hj hz
  cases j with
  | zero=>simp at hj hz; subst hj; subst hz; exact ⟨hy,h1⟩
  | succ j=>simp at hj
 rcases DataW.trod_slice ht h with ⟨rfl,rfl⟩ | ⟨a,len,cap,elems,rest,m,rfl,rfl,rfl,hb,hl,_,hlen,hel,_,_⟩
 · exact ⟨[],rfl,by simp,by simp,done [] _ (CRel.nil_sl n) rfl⟩
 · have each:∀ i,i < len→∃ v:T,Q v∧(∀ e,elems[i]?=some e→S v≤bulk e.1)∧a.block < w.heap.size∧∀ (j:Nat) (c:AV),(nT v)[j]?=some c→∃ y,w.cell? (a.add (i*n+j))=some y∧CRel (Old w) w c y∧y.oneCell'=true:=by
    intro i hi; have h1:=hel i hi; rw [List.getElem?_eq_getElem (by omega),he.1] at h1; obtain ⟨cs',h2,h3⟩:=Option.bind_eq_some_iff.1 h1; obtain ⟨v,h4,hq,hs,h5⟩:=he.2.2 H enc base spare held m cs' _ h3; obtain ⟨h6,h7,h8⟩:=World.cells?_some h2; have hblk:=World.cells?_block h2 hn; rw [zeg] at hblk; refine ⟨v,hq,fun e he'=>?_,hblk,fun j c hj=>?_⟩
    · rw [List.getElem?_eq_getElem (by omega)] at he'; injection he' with he'; rw [← he']; exact hs
    have hjn:j < n:=by have:=(List.getElem?_eq_some_iff.1 hj).1; rw [he.2.1] at this; exact this
    have h9:=h8 j hjn; rw [Go.Addr.add_add] at h9; have h10:cs'[j]?=some (cs'[j]'(by omega)):=List.getElem?_eq_getElem (by omega); refine ⟨cs'[j]'(by omega),by rw [h9,h10],h5 j c _ hj h10⟩
   obtain ⟨l,hll,hlr⟩:=list_of len each; refine ⟨l,rfl,fun v hv=>?_,?_,done l _ (.sl n _ (some a) len cap (fun i j=>(w.cell? (a.add (i*n+j))).getD undef) (by simp; omega) hl (fun cs hcs=>by obtain ⟨v,_,rfl⟩:=List.mem_map.1 hcs; exact he.2.1 v) ?_ ?_) rfl⟩
   · obtain ⟨i,hi,rfl⟩:=List.mem_iff_getElem.1 hv; exact (hlr i _ (List.getElem?_eq_getElem hi)).1
   · have:=sum_bulk S l elems (by omega) (fun i v e hv he'=>(hlr i v hv).2.1 e he'); simp only [bulk,bulks,Rows.uptoBulk] at this ⊢; omega
   · cases l with
     | nil=>left; rfl
     | cons v l'=>right; refine ⟨a,rfl,(hlr 0 v rfl).2.2.1,fun i j cs c h1 h2=>?_⟩; rw [List.getElem?_map] at h1; obtain ⟨u,hu,rfl⟩:=Option.map_eq_some_iff.1 h1; obtain ⟨y,hy,hr,ho⟩:=(hlr i u hu).2.2.2 j c h2; rw [hy]; exact ⟨rfl,ho⟩
   · intro i j cs c h1 h2; rw [List.getElem?_map] at h1; obtain ⟨u,hu,rfl⟩:=Option.map_eq_some_iff.1 h1; obtain ⟨y,hy,hr,ho⟩:=(hlr i u hu).2.2.2 j c h2; rw [hy]; exact hr
def RqF (P:Program) (w:World) (fs:List Field) (off n:Nat) {T:Type} (nT:T→List AV) (Q:T→Prop) (S:T→Nat):Prop:=
 (∀ v,(nT v).length=n)∧∀ (H:Type) (enc:TypeId×Value→H) (base:Nat) (spare:Nat→Bool) (held:Bool) (fuel:Nat) (cs:List Value) (xs:List (DataW H×List MemPlace)),off+n≤cs.length→xs.length=fs.length→(∀ (i:Nat) (f:Field),fs[i]?=some f→DataW.trod enc P w base spare held fuel f.type ((cs.drop f.offset).take (P.cellsOf f.type))=xs[i]?)→∃ v:T,Q v∧S v≤bulks (xs.map (·.1))∧∀ (j:Nat) (c:AV) (y:Value),(nT v)[j]?=some c→cs[off+j]?=some y→CRel (Old w) w c y∧y.oneCell'=true
theorem zed {P:Program} {w:World} {off:Nat}:RqF P w [] off 0 (fun _:Unit=>[]) (fun _=>True) (fun _=>0):=
 ⟨fun _=>rfl,fun _ _ _ _ _ _ _ _ _ _ _=>⟨(),trivial,Nat.zero_le _,fun j c y h=>by simp at h⟩⟩
theorem zaK {P:Program} {w:World} {f:Field} {fs:List Field} {off n m:Nat} {A B:Type} {nA:A→List AV} {nB:B→List AV} {QA:A→Prop} {SA:A→Nat} {QB:B→Prop} {SB:B→Nat} (hA:RdQ P w f.type n nA QA SA) (ho:f.offset=off) (hB:RqF P w fs (off+n) m nB QB SB):RqF P w (f :: fs) off (n+m) (fun v:A×B=>nA v.1++nB v.2) (fun v=>QA v.1∧QB v.2) (fun v=>SA v.1+SB v.2):=by
 refine ⟨fun v=>by simp [hA.2.1,hB.1],fun H enc base spare held fuel cs xs hl hx h=>?_⟩
 cases xs with
 | nil=>simp at hx
 | cons x xs =>
   obtain ⟨a,h1,hqa,hsa,h2⟩:=hA.2.2 H enc base spare held fuel _ x (h 0 f rfl); obtain ⟨b,hqb,hsb,h3⟩:=hB.2 H enc base spare held fuel cs xs (by omega) (by simpa using hx) (fun i g hg=>by simpa using h (i+1) g (by simpa using hg)); refine ⟨(a,b),⟨hqa,hqb⟩,?_,fun j c y hj hy=>?_⟩
   · simp only [List.map_cons,bulks,Rows.uptoBulkAll] at hsb ⊢; simp only [bulk] at hsa; omega
   by_cases hjn:j < n
   · rw [List.getElem?_append_left (by rw [hA.2.1]; exact hjn)] at hj; refine h2 j c y hj ?_; rw [List.getElem?_take_of_lt (by rw [hA.1]; exact hjn),List.getElem?_drop,ho]; exact hy
   · rw [List.getElem?_append_right (by rw [hA.2.1]; omega),hA.2.1] at hj; refine h3 (j - n) c y hj ?_; rw [show off+n+(j - n)=off+j by omega]; exact hy
theorem zcW {P:Program} {w:World} {t:TypeId} {fs:Array Field} {n:Nat} {T:Type} {nT:T→List AV} {Q:T→Prop} {S:T→Nat} (hc:P.cellsOf t=n) (ht:P.underlying t=some (.struct fs)) (hf:RqF P w fs.toList 0 n nT Q S):RdQ P w t n nT Q S:=by refine ⟨hc,hf.1,fun H enc base spare held fuel cs x h=>?_⟩; obtain ⟨xs,m,rfl,rfl,h2,h3,h4⟩:=DataW.trod_struct ht h; obtain ⟨v,hq,hs,hv⟩:=hf.2 H enc base spare held m cs xs (by omega) (by simpa using h3) (fun i f hi=>h4 i f (by simpa using hi)); refine ⟨v,by omega,hq,?_,by simpa using hv⟩; simp only [bulk,bulks,Rows.uptoBulk] at hs ⊢; omega
theorem zpE {P:Program} {w:World} {t:TypeId} {n:Nat} {T:Type} {nT:T→List AV} {Q:T→Prop} {S:T→Nat} (hr:RdQ P w t n nT Q S) {H:Type} {enc:TypeId×Value→H} {base:Nat} {spare:Nat→Bool} {held:Bool} {vs:Array Value} {d:DataW H} {ps:List MemPlace}
  (h:DataW.Trod enc P w base spare held t (.agg vs) d ps) {κ:Kap} {D:Nat→Prop}:∃ v:T,Q v∧S v≤bulk d∧VRel (Old w) κ D w (.agg (nT v)) (.agg vs):=by
 obtain ⟨fuel,hf⟩:=h; obtain ⟨v,h1,hq,hs,h2⟩:=hr.2.2 H enc base spare held fuel _ _ hf; have hvs:(Value.agg vs).cells.toList=vs.toList:=rfl; rw [hvs] at h1 h2; have hlen:vs.size=n:=by simpa using h1
 have hl2:=hr.2.1 v; refine ⟨v,hq,hs,.c (.agg _ _ (by omega) ?_ ?_)⟩
 · intro x hx; obtain ⟨i,hi,rfl⟩:=Array.mem_iff_getElem.1 hx; exact (h2 i ((nT v)[i]'(by omega)) _ (List.getElem?_eq_getElem _) (by simp [hi])).2
 · intro j c x hj hx; exact (h2 j c x hj (by simpa using hx)).1
end Go.Ab
namespace Go.Proofs.YtdclabgakicjeaaGreatDoor
open Go.Ab
variable {α:Type}
def dec (p:Prop):Bool:=@decide p (Classical.propDecidable p)
def AscBy (f:α→Int) (l:List α):Prop:=∀ j (hj:j+1 < l.length),f l[j] < f l[j+1]
def fnd (p:α→Bool):Nat→List α→Option (Nat×α)
 | _,[]=>none
 | i,x :: r=>if p x=true then some (i,x) else fnd p (i+1) r
def OkPart (p:GPart):Prop:=
 (1≤p.Max∧p.Max≤40)∧(0≤p.Topic∧p.Topic < 16)∧(0≤p.Objective∧p.Objective < 6)∧((p.Kind=1∧p.Options=0∧p.Key=0)∨(p.Kind=2∧2≤p.Options∧p.Options≤5∧0≤p.Key∧p.Key < p.Options))
def sumMax (l:List GPart):Int:=(l.map (·.Max)).sum
def OkPaper (p:zay):Prop:=
 (0≤p.Code∧p.Code≤31)∧(0≤p.Variant∧p.Variant < 4)∧(1≤p.Parts.length∧p.Parts.length≤24)∧(∀ x∈p.Parts,OkPart x)∧sumMax p.Parts≤200
def OkKeys (o:Int) (ks:List Int):Prop:=(∀ k∈ks,0≤k∧k < o)∧AscBy id ks
def zl1 (p:zay) (s:za9):Prop:=
 OkPaper p∧s.Keys.length=p.Parts.length∧s.Withdrawn.length=p.Parts.length∧∀ (j:Nat) (x:GPart) (ks:List Int) (k:Int),p.Parts[j]?=some x→s.Keys[j]?=some ks→s.Withdrawn[j]?=some k→OkKeys x.Options ks∧(0≤k∧k≤2)
def Short (s:za9):Prop:=∀ ks∈s.Keys,ks.length≤1000000
def zpm (m:za1):Prop:=
 (1≤m.ID∧m.ID≤99)∧(-1≤m.Centre∧m.Centre≤99)∧(1≤m.Level∧m.Level≤3)∧(0≤m.Capacity∧m.Capacity≤60)∧(∀ n∈m.Papers,0≤n∧n≤31)
def zrG (l:List za1):Prop:=l.length≤16∧(∀ m∈l,zpm m∧AscBy id m.Papers)∧AscBy za1.ID l
def OkScript (x:zav):Prop:=
 (0≤x.Paper∧x.Paper≤31)∧(0≤x.Candidate∧x.Candidate≤9999)∧(0≤x.Centre∧x.Centre≤99)∧(0≤x.Variant∧x.Variant≤31)∧x.Number=x.Paper*10000+x.Candidate∧x.Pages.length≤12
def OkScripts (l:List zav):Prop:=l.length≤60∧(∀ x∈l,OkScript x)∧AscBy zav.Number l
def OkMon (r:za6):Prop:=(0≤r.Part∧r.Part≤200)∧(0≤r.Total∧r.Total≤200)∧(1≤r.Window∧r.Window≤20)∧(1≤r.Fails∧r.Fails≤r.Window)
def OkAns (p:zay) (a:List Int):Prop:=a.length=p.Parts.length∧∀ (j:Nat) (x:GPart) (v:Int),p.Parts[j]?=some x→a[j]?=some v→x.Kind≠1→-2≤v∧v < x.Options
def scriptOf (l:List zav) (n:Int):Option zav:=(fnd (fun x=>x.Number == n) 0 l).map (·.2)
def zgJ (ps:List zay) (x:zav):Option (Nat×zay):=fnd (fun p=>p.Code == x.Paper && p.Variant == x.Variant) 0 ps
def paperOf (s:zcp) (n:Int):Option (Nat×zay):=(scriptOf s.Scripts n).bind (zgJ s.Papers)
def OkMarks (p:zay) (m:List Int):Prop:=m.length=p.Parts.length∧∀ (j:Nat) (x:GPart) (v:Int),p.Parts[j]?=some x→m[j]?=some v→0≤v∧v≤x.Max
structure OkSetup (s:zcp):Prop where
 markers:zrG s.Markers
 scripts:OkScripts s.Scripts
 papers:s.Papers.length≤32
 len:s.Schemes.length=s.Papers.length
 schemes:∀ (j:Nat) (p:zay) (c:za9),s.Papers[j]?=some p→s.Schemes[j]?=some c→zl1 p c
 script:∀ x∈s.Scripts,∃ (k:Nat) (p:zay) (c:za9),zgJ s.Papers x=some (k,p)∧s.Schemes[k]?=some c∧OkAns p x.Answers
 seeds:s.Seeds.length≤12
 asc:AscBy GSeed.Script s.Seeds
 seed:∀ x∈s.Seeds,∃ (k:Nat) (p:zay),paperOf s x.Script=some (k,p)∧OkMarks p x.Marks
 monitor:OkMon s.Monitor
 short:∀ c∈s.Schemes,Short c
 short2:∀ m∈s.Markers,m.Papers.length≤1000000
end Go.Proofs.YtdclabgakicjeaaGreatDoor
namespace Go.Proofs.YtdclabgakicjeaaGreatDoor
open Go.Ab
theorem zn1 {β:Type} (b:Bool) (t e:Option β):brn b t e=if b=true then t else e:=by cases b <;> rfl
variable {α β:Type}
theorem zhN (l:List α) (P:Int→List α→Prop) (h0:P l.length [])
  (hs:∀ (i:Nat) (hi:i < l.length) (r:List α),l.drop (i+1)=r→P ((i:Int)+1) r→P i (l[i] :: r)):P 0 l:=by
 have key:∀ (n i:Nat),i+n=l.length→P (i:Int) (l.drop i):=by
  intro n
  induction n with
  | zero=>intro i hi; have:l.drop i=[]:=List.drop_eq_nil_of_le (by omega); rw [this,show i=l.length by omega]; exact h0
  | succ n ih =>
    intro i hi; have hlt:i < l.length:=by omega
    rw [List.drop_eq_getElem_cons hlt]; have:=ih (i+1) (by omega); rw [Int.natCast_add] at this; exact hs i hlt _ rfl this
 have:=key l.length 0 (by omega); simpa using this
theorem all_gen (n:Nat) (G:∀ j,j < n→Prop) (K:Int→Option β) (S:β→Prop) (z:β) (h0:(∀ j hj,G j hj)→K n=some z)
  (hno:∀ (i:Nat) (hi:i < n),(∀ j (hj:j < i),G j (by omega))→¬ G i hi→∃ y,S y∧K i=some y) (hyes:∀ (i:Nat) (hi:i < n) (y:β),G i hi→K ((i:Int)+1)=some y→K i=some y):((∀ j hj,G j hj)∧K 0=some z)∨((∃ j hj,¬ G j hj)∧∃ y,S y∧K 0=some y):=by
 have key:∀ (m i:Nat),i+m=n→(∀ j (hj:j < i) (hn:j < n),G j hn)→((∀ j hj,i≤j→G j hj)∧K (i:Int)=some z)∨((∃ j hj,¬ G j hj)∧∃ y,S y∧K (i:Int)=some y):=by
  intro m
  induction m with
  | zero=>intro i hi hpre; left; refine ⟨fun j hj h=>by omega,?_⟩; rw [show i=n by omega,h0 (fun j hj=>hpre j (by omega) hj)]
  | succ m ih =>
    intro i hi hpre; by_cases hg:G i (by omega)
    · have:=ih (i+1) (by omega) (fun j hj hn=>by
       by_cases e:j=i
       · subst e; exact hg
       · exact hpre j (by omega) hn)
      rw [Int.natCast_add] at this; rcases this with ⟨h1,h2⟩ | ⟨h1,y,h2,h3⟩
      · left; refine ⟨fun j hj h=>?_,hyes i (by omega) z hg h2⟩; by_cases e:j=i
        · subst e; exact hg
        · exact h1 j hj (by omega)
      · exact .inr ⟨h1,y,h2,hyes i (by omega) y hg h3⟩
    · exact .inr ⟨⟨i,by omega,hg⟩,hno i (by omega) (fun j hj=>hpre j hj _) hg⟩
 rcases key n 0 (by omega) (fun j hj=>by omega) with ⟨h1,h2⟩ | h
 · exact .inl ⟨fun j hj=>h1 j hj (Nat.zero_le _),h2⟩
 · exact .inr h
theorem all_get {l:List α} {G:α→Prop}:(∀ j (hj:j < l.length),G l[j])↔∀ x∈l,G x:=by
 constructor
 · intro h x hx; obtain ⟨j,hj,rfl⟩:=List.mem_iff_getElem.1 hx; exact h j hj
 · exact fun h j hj=>h _ (List.getElem_mem hj)
theorem fnd_some {p:α→Bool}:∀ {l:List α} {i j:Nat} {x:α},fnd p i l=some (j,x)→i≤j∧l[j - i]?=some x∧p x=true∧∀ k y,k < j - i→l[k]?=some y→p y=false
 | [],i,j,x,h=>by simp [fnd] at h
 | a :: l,i,j,x,h=>by
   simp only [fnd] at h; split at h
   · rename_i ha; simp only [Option.some.injEq,Prod.mk.injEq] at h; obtain ⟨rfl,rfl⟩:=h; exact ⟨Nat.le_refl _,by simp,ha,fun k y hk=>by omega⟩
   · rename_i ha; obtain ⟨h1,h2,h3,h4⟩:=fnd_some h; have e:j - i=(j - (i+1))+1:=by omega
     refine ⟨by omega,by rw [e]; simpa using h2,h3,fun k y hk hy=>?_⟩
     cases k with
     | zero=>simp at hy; subst hy; simpa using ha
     | succ k=>exact h4 k y (by omega) (by simpa using hy)
theorem fnd_at {p:α→Bool} {l:List α} {j:Nat} {x:α} (h:fnd p 0 l=some (j,x)):l[j]?=some x∧p x=true∧∀ k y,k < j→l[k]?=some y→p y=false:=by have:=(fnd_some h).2; simpa using this
theorem zmj {p:α→Bool}:∀ {l:List α} {i:Nat},fnd p i l=none↔∀ x∈l,p x=false
 | [],i=>by simp [fnd]
 | a :: l,i=>by
   simp only [fnd]; split
   · rename_i ha; simp [ha]
   · rename_i ha; rw [zmj]; simp only [List.mem_cons,forall_eq_or_imp]; exact ⟨fun h=>⟨by simpa using ha,h⟩,fun h=>h.2⟩
theorem fnd_of {p:α→Bool} {l:List α} {j:Nat} {x:α} (hx:l[j]?=some x) (hp:p x=true) (hk:∀ k y,k < j→l[k]?=some y→p y=false):fnd p 0 l=some (j,x):=by
 cases h:fnd p 0 l with
 | none=>have:=zmj.1 h x (List.mem_of_getElem? hx); rw [hp] at this; cases this
 | some q =>
   obtain ⟨i,y⟩:=q; obtain ⟨h1,h2,h3⟩:=fnd_at h; rcases Nat.lt_trichotomy i j with c | c | c
   · have:=hk i y c h1; rw [h2] at this; cases this
   · subst c; rw [hx] at h1; injection h1 with h1; rw [h1]
   · have:=h3 j x c hx; rw [hp] at this; cases this
theorem find_gen (l:List α) (p:α→Bool) (K:Int→Option β) (R:Option (Nat×α)→β) (h0:K l.length=some (R none))
  (hyes:∀ (i:Nat) (hi:i < l.length),p l[i]=true→K i=some (R (some (i,l[i])))) (hno:∀ (i:Nat) (hi:i < l.length) (y:β),p l[i]=false→K ((i:Int)+1)=some y→K i=some y):K 0=some (R (fnd p 0 l)):=by
 have H:=all_gen l.length (fun j hj=>p l[j]=false) K (fun y=>∃ i x,fnd p 0 l=some (i,x)∧y=R (some (i,x))) (R none) (fun _=>h0)
  (fun i hi hpre hn=>⟨_,⟨i,l[i],fnd_of (List.getElem?_eq_getElem hi) (by simpa using hn) (fun k y hk hy=>by
   obtain ⟨hk',rfl⟩:=List.getElem?_eq_some_iff.1 hy
   exact hpre k hk),rfl⟩,hyes i hi (by simpa using hn)⟩) hno
 rcases H with ⟨h1,h2⟩ | ⟨_,y,⟨i,x,h2,rfl⟩,h3⟩
 · rw [h2,zmj.2 ((all_get (G:=fun x=>p x=false)).1 h1)]
 · rw [h3,h2]
theorem map_set' {γ:Type} (f:α→γ) (l:List α) (i:Nat) (a:α):(List.map f l).set i (f a)=List.map f (l.set i a):=List.map_set.symm
theorem zbz {γ:Type} (f:α→γ) (l:List α) (a:α):List.map f l++[f a]=List.map f (l++[a]):=by simp
theorem map_rep {γ:Type} (f:α→γ) (n:Nat) (a:α):List.replicate n (f a)=List.map f (List.replicate n a):=by simp
end Go.Proofs.YtdclabgakicjeaaGreatDoor
namespace Go.Proofs.YtdclabgakicjeaaGreatDoor
open Go.Ab Go.RowKit Go.Shelf
set_option maxRecDepth 20000
theorem ora {f:FuncId} {o:List AV→Option (AV×Mem)} (hz:∀ args,zOrc f args []=o args) (he:enters zP f=true)
  (H:∀ args r ms',o args=some (r,ms')→ms'=[]∧∀ (w:World) (S:Nat→Prop) (κ:Kap) (vals:Array Value),vals.size=args.length→(∀ g,S g→g < w.heap.size)→varsOk S w→(∀ (k:Nat) (a:AV) (x:Value),args[k]?=some a→vals[k]?=some x→VRel S κ (Dm []) w a x)→Calls zP f vals w (Ab.Left S κ [] [] r w)):CallOK zP (single f zOrc):=by
 intro g args ms r ms' h; unfold single at h; split at h
 case isFalse=>cases h
 rename_i hg; subst hg
 cases ms with
 | cons a m=>have:zOrc g args (a :: m)=none:=rfl; rw [this] at h; cases h
 | nil=>rw [hz] at h; obtain ⟨rfl,h2⟩:=H args r ms' h; exact ⟨he,fun w S κ vals hvl hS hk hv _ _=>h2 w S κ vals hvl hS hk hv⟩
theorem leftP {S S':Nat→Prop} {κ:Kap} {w w':World} {r:AV} {x:Value} (hb:Below w.heap.size w w') (hS:∀ g,S g→g < w.heap.size) (h1:∀ g,S g→S' g) (h2:∀ g,S' g→S g∨w.heap.size≤g) (h3:∀ g,S' g→g < w'.heap.size)
  (hr:RRel S' κ (Dm []) (Mine w κ (Dm [])) w' r x):Ab.Left S κ [] [] r w (.returned x) w':=
 ⟨x,S',κ,rfl,hb.os,hb.tape,⟨hb.output,fun d=>d.elim⟩,hb.size,fun g hg _=>hb.block g hg,h1,fun g hg=>(h2 g hg).imp id (fun q=>.inl q),h3,fun _ _=>rfl,fun b g c _ hd=>by simp [Dm,Ab.look] at hd,fun b b' g c c' hd=>by simp [Dm,Ab.look] at hd,fun b ent hb=>by simp [Ab.look] at hb,hr⟩
theorem leftF {S:Nat→Prop} {κ:Kap} {w w':World} {r:AV} {x:Value} (hb:Below w.heap.size w w') (hS:∀ g,S g→g < w.heap.size)
  (hr:RRel S κ (Dm []) (Mine w κ (Dm [])) w' r x):Ab.Left S κ [] [] r w (.returned x) w':=
 leftP hb hS (fun _ h=>h) (fun _ h=>.inl h) (fun g h=>Nat.lt_of_lt_of_le (hS g h) hb.size) hr
theorem one1 {a:AV} {vals:Array Value} (h:vals.size=[a].length):∃ v,vals=#[v]:=by
 rcases vals with ⟨vs⟩
 match vs,h with
 | [v],_=>exact ⟨v,rfl⟩
theorem two2 {a b:AV} {vals:Array Value} (h:vals.size=[a,b].length):∃ v u,vals=#[v,u]:=by
 rcases vals with ⟨vs⟩
 match vs,h with
 | [v,u],_=>exact ⟨v,u,rfl⟩
theorem itoa_ok:CallOK zP (single zc9 zOrc):=by
 refine ora (o:=oItoa) (fun args=>by unfold zOrc; simp (decide:=true) only [if_false,if_true]) (by kernel_rfl) (fun args r ms' h=>?_); unfold oItoa at h; split at h
 case h_2=>cases h
 rename_i n; split at h
 case isFalse=>cases h
 rename_i hn; injection h with h; injection h with h1 h2; subst h1 h2; refine ⟨rfl,fun w S κ vals hvl hS hk hv=>?_⟩; obtain ⟨v,rfl⟩:=one1 hvl; obtain rfl:=(hv 0 _ v rfl rfl).v_inv; refine (Any.strconv_Itoa layItoa n hn.1 hn.2 w hk.2.2.2).mono ?_
 rintro e w' ⟨rfl,k,os,rfl⟩
 exact leftF (Lib.below_grow _ w (Nat.le_refl _) k os) hS (.v _)
theorem pre_ok:CallOK zP (single zdZ zOrc):=by
 refine ora (o:=oPre) (fun args=>by unfold zOrc; simp (decide:=true) only [if_false,if_true]) (by kernel_rfl) (fun args r ms' h=>?_); unfold oPre at h; split at h
 case h_2=>cases h
 rename_i s p; injection h with h; injection h with h1 h2; subst h1 h2; refine ⟨rfl,fun w S κ vals hvl hS hk hv=>?_⟩; obtain ⟨v,u,rfl⟩:=two2 hvl; obtain rfl:=(hv 0 _ v rfl rfl).v_inv; obtain rfl:=(hv 1 _ u rfl rfl).v_inv; refine (Any.strings_CutPrefix layPre s p w).mono ?_
 rintro e w' ⟨rfl,rfl⟩
 refine leftF (Below.refl _ _) hS (.tup _ _ rfl fun j c x hj hx=>?_)
 match j,hj,hx with
 | 0,hj,hx=>injection hj with hj; injection hx with hx; subst hj; subst hx; exact .v _
 | 1,hj,hx=>injection hj with hj; injection hx with hx; subst hj; subst hx; exact .v _
 | j+2,hj,hx=>simp at hj
theorem cut_ok:CallOK zP (single zhf zOrc):=by
 refine ora (o:=oCut) (fun args=>by unfold zOrc; simp (decide:=true) only [if_false,if_true]) (by kernel_rfl) (fun args r ms' h=>?_); unfold oCut at h; split at h
 case h_2=>cases h
 rename_i s p; split at h
 case isFalse=>cases h
 rename_i hs; injection h with h; injection h with h1 h2; subst h1 h2; refine ⟨rfl,fun w S κ vals hvl hS hk hv=>?_⟩; obtain ⟨v,u,rfl⟩:=two2 hvl; obtain rfl:=(hv 0 _ v rfl rfl).v_inv; obtain rfl:=(hv 1 _ u rfl rfl).v_inv; obtain ⟨m,hm⟩:=hk.2.1.2; refine (Any.strings_Cut layCut s p m w hs hm).mono ?_
 rintro e w' ⟨rfl,n,rfl⟩
 refine leftF ⟨rfl,rfl,rfl,Nat.le_refl _,fun _ _=>rfl⟩ hS (.tup _ _ rfl fun j c x hj hx=>?_)
 match j,hj,hx with
 | 0,hj,hx=>injection hj with hj; injection hx with hx; subst hj; subst hx; exact .v _
 | 1,hj,hx=>injection hj with hj; injection hx with hx; subst hj; subst hx; exact .v _
 | 2,hj,hx=>injection hj with hj; injection hx with hx; subst hj; subst hx; exact .v _
 | j+3,hj,hx=>simp at hj
theorem split_ok:CallOK zP (single zeo zOrc):=by
 refine ora (o:=oSplit) (fun args=>by unfold zOrc; simp (decide:=true) only [if_false,if_true]) (by kernel_rfl) (fun args r ms' h=>?_); unfold oSplit at h; split at h
 case h_2=>cases h
 rename_i s p; split at h
 case isFalse=>cases h
 rename_i hs; injection h with h; injection h with h1 h2; subst h1 h2; refine ⟨rfl,fun w S κ vals hvl hS hk hv=>?_⟩; obtain ⟨v,u,rfl⟩:=two2 hvl; obtain rfl:=(hv 0 _ v rfl rfl).v_inv; obtain rfl:=(hv 1 _ u rfl rfl).v_inv; obtain ⟨m,hm⟩:=hk.2.1.2; refine (Any.strings_Split { zp7 with } zp7.i9 s p m w hs.1 hm hs.2).mono ?_
 rintro e w' ⟨rfl,rfl⟩
 have hl:(Lib.splitB p 0 (Lib.countB s p) s).length=Lib.countB s p+1:=Lib.splitB_all p hs.2 0 _ s rfl; generalize hws:Lib.splitB p 0 (Lib.countB s p) s=ws at hl ⊢
 have hg:(w.alloc (.cells (ws.map Value.string).toArray (zkv.t 9))).heap[w.heap.size]?=some (.cells (ws.map Value.string).toArray (zkv.t 9) (0,0)):=by show (w.heap.push _)[w.heap.size]?=_; rw [Array.getElem?_push,if_pos rfl]
 refine leftF ((Below.refl _ w).alloc (Nat.le_refl _) _) hS ⟨by decide,.inr ⟨w.heap.size,Lib.countB s p+1,.inl (Nat.le_refl _),by rw [List.length_map,hl],EntAt.of (.inr Nat.one_pos) ⟨?_,_,hg,?_,?_,?_,fun h=>by have:=hS _ h; omega,?_⟩⟩⟩
 · intro cs hcs; obtain ⟨x,_,rfl⟩:=List.mem_map.1 hcs; rfl
 · simp [hl]
 · simp [hl]
 · show Lib.countB s p+1≤maxLen; have:=Lib.countB_le p hs.2 _ s (Nat.le_refl _); unfold maxLen; omega
 · intro i j cs a hi hj; rw [List.getElem?_map] at hi
   cases hx:ws[i]? with
   | none=>rw [hx] at hi; cases hi
   | some x =>
     rw [hx] at hi; injection hi with hi; subst hi
     match j,hj with
     | 0,hj=>injection hj with hj; subst hj; exact ⟨.string x,by simp [hx],rfl,fun h=>by (cases h),fun _=>CRel.v _⟩
     | j+1,hj=>simp at hj
theorem strsOf_get:∀ {es:List (List AV)} {ws:List ByteArray},strsOf es=some ws→es=ws.map fun s=>[.v (.string s)]:=by
 intro es
 fun_induction strsOf es with
 | case1=>intro ws h; injection h with h; subst h; rfl
 | case2 s r ih=>intro ws h; obtain ⟨wr,h1,rfl⟩:=Option.map_eq_some_iff.1 h; rw [ih h1]; rfl
 | case3=>intro ws h; cases h
theorem bx:Builder.Extra zP zo6 where
 sizeBuilder:=by kernel_rfl
 liesBuilder:=by kernel_rfl
 t5:=Tryz.underlying5
 a5:=Tryz.isAgg5
 z5:=Tryz.sizeOf5
 v5:=Tryz.zeroValue5
 infoByte:=by kernel_rfl
 cellsByte:=by kernel_rfl
 sizeByte:=by kernel_rfl
 neB5:=by decide
theorem join_ok:CallOK zP (single zdP zOrc):=by
 refine ora (o:=oJoin) (fun args=>by unfold zOrc; simp (decide:=true) only [if_false,if_true]) (by kernel_rfl) (fun args r ms' h=>?_); unfold oJoin at h; split at h
 case h_2=>cases h
 rename_i es p; split at h
 case h_2=>cases h
 rename_i ws hws; split at h
 case isFalse=>cases h
 rename_i hs; injection h with h; injection h with h1 h2; subst h1 h2; refine ⟨rfl,fun w S κ vals hvl hS hk hv=>?_⟩; obtain ⟨v,u,rfl⟩:=two2 hvl; obtain rfl:=(hv 1 _ u rfl rfl).v_inv; have hv0:=(hv 0 _ v rfl rfl).sl_inv; have he:=strsOf_get hws; subst he
 cases hv0 with
 | sl _ _ A len cap q hlen hcap hz ha hr =>
   rw [List.length_map] at hlen; subst hlen
   have hemp:ws=[]→Calls zP zdP #[.slice A ws.length cap,.string p] w (Ab.Left S κ [] [] (.v (.string (tx (Lib.join (ws.map (·.data.toList)) p.data.toList)))) w):=fun h0=>by
    subst h0; refine (Any.strings_Join_none layJoin bx A cap p w).mono ?_
    rintro e w' ⟨rfl,rfl⟩
    exact leftF (Below.refl _ _) hS (.v _)
   rcases ha with h0 | ⟨a,rfl,hSa,hc⟩
   · exact hemp (by simpa using h0)
   · by_cases hne:ws=[]
     · exact hemp hne
     have hcell:∀ (j:Nat) (x:ByteArray),ws[j]?=some x→w.cell? (a.add j)=some (.string x):=fun j x hx=>by
      have hj:(ws.map fun s=>([.v (.string s)]:List AV))[j]?=some [.v (.string x)]:=by rw [List.getElem?_map,hx]; rfl
      have h1:=(hc j 0 _ _ hj rfl).1; have h2:q j 0=.string x:=(VRel.c (κ:=κ) (D:=Dm []) (hr j 0 _ _ hj rfl)).v_inv; rw [h2] at h1; simpa using h1
     obtain ⟨bk,o,sp⟩:=a
     have hsp:sp=none:=by
      obtain ⟨x,hx⟩:∃ x,ws[0]?=some x:=⟨_,List.getElem?_eq_getElem (by cases ws with | nil=>exact absurd rfl hne | cons _ _=>simp)⟩
      have:=hcell 0 x hx; unfold Addr.add at this; rw [if_pos rfl] at this; unfold World.cell? at this
      cases sp with
      | none=>rfl
      | some q=>split at this <;> simp at this
     subst hsp; refine (Any.strings_Join layJoin bx bk o cap ws p w (fun j x hx=>?_) (hS _ hSa) (by omega) hcap hs.2).mono ?_
     · rw [← hcell j x hx,add_at]
     · rintro e w' ⟨rfl,hb⟩
       exact leftF hb hS (.v _)
end Go.Proofs.YtdclabgakicjeaaGreatDoor
namespace Go.Proofs.YtdclabgakicjeaaGreatDoor
open Go.Ab Go.Str
set_option maxRecDepth 20000
theorem lt12' {w:Nat} (h:w < 12):w=0∨w=1∨w=2∨w=3∨w=4∨w=5∨w=6∨w=7∨w=8∨w=9∨w=10∨w=11:=by omega
theorem c_Itoa {n:Int} (h:W64 n):cw zc9 [I n] []=some (zaA (tx (Lib.itoa n))):=
 zgI itoa_ok (by
  show oItoa [I n]=_; unfold oItoa; dsimp only; rw [if_pos (show _∧_ from h)]
  rfl)
theorem tx_lists (ws:List ByteArray):(ws.map (·.data.toList)).map tx=ws:=by rw [List.map_map]; exact (List.map_congr_left fun x _=>tx_of x).trans (List.map_id' ws)
theorem c_Split {l:List UInt8} {c:UInt8} (h:l.length < 4294967281):cw zeo [.v (.string (tx l)),.v (.string (tx [c]))] []=some (zcS ((splitC c l).map tx)):=by
 have e:Lib.splitB (tx [c]) 0 (Lib.countB (tx l) (tx [c])) (tx l)=(splitC c l).map tx:=by
  have h1:=Lib.splitB_data (tx [c]) 0 (Lib.countB (tx l) (tx [c])) (tx l); rw [zcI,zcI] at h1
  have h2:Lib.splitK [c] 0 (Lib.countB (tx l) (tx [c])) l=splitC c l:=by rw [← split_eq c _ l (Nat.le_refl _)]; unfold Lib.split Lib.countB; rw [zcI,zcI]
  rw [h2] at h1; rw [← h1,tx_lists]
 refine zgI split_ok ?_; show oSplit [.v (.string (tx l)),.v (.string (tx [c]))]=_; unfold oSplit; dsimp only; rw [if_pos ⟨by rw [zap]; exact h,by rw [zap]; simp⟩,e]; rfl
theorem c_Cut {l:List UInt8} {c:UInt8} (h:l.length < 4294967281):cw zhf [.v (.string (tx l)),.v (.string (tx [c]))] []=some (zjo (tx (Lib.cut l [c]).1,tx (Lib.cut l [c]).2.1,(Lib.cut l [c]).2.2)):=by refine zgI cut_ok ?_; show oCut [.v (.string (tx l)),.v (.string (tx [c]))]=_; unfold oCut; dsimp only; rw [if_pos (by rw [zap]; exact h),zcI,zcI]; rfl
theorem c_Pre (l p:List UInt8):cw zdZ [.v (.string (tx l)),.v (.string (tx p))] []=some (zbM (tx (Lib.trimPrefix l p),Lib.hasPrefix l p)):=by refine zgI pre_ok ?_; show oPre [.v (.string (tx l)),.v (.string (tx p))]=_; unfold oPre; dsimp only; rw [zcI,zcI]; rfl
theorem zrb:∀ ws:List (List UInt8),strsOf (List.map nStr (ws.map tx))=some (ws.map tx)
 | []=>rfl
 | w :: r=>by show (strsOf (List.map nStr (r.map tx))).map _=_; rw [zrb r]; rfl
theorem c_Join {ws:List (List UInt8)} {p:List UInt8} (h1:ws.length≤1000000000) (h2:(Lib.join ws p).length≤140737488355328):cw zdP [.sl 1 (List.map nStr (ws.map tx)),.v (.string (tx p))] []=some (zaA (tx (Lib.join ws p))):=by
 have e:((ws.map tx).map (·.data.toList))=ws:=by rw [List.map_map]; exact (List.map_congr_left fun x _=>zcI x).trans (List.map_id' ws)
 refine zgI join_ok ?_; show oJoin [.sl 1 (List.map nStr (ws.map tx)),.v (.string (tx p))]=_; unfold oJoin; simp only [zrb]; rw [e,zcI,if_pos ⟨by simpa using h1,h2⟩]; rfl
theorem c_fits (n:Int):cw zgB [I n] []=some (zaR (decide (fits n))):=by
 refine zrv n ?_; rw [zn1]
 have:decide (fits n)=(decide (-999999999999999999≤n) && decide (n≤999999999999999999)):=by rw [← Bool.decide_and]; exact decide_eq_decide.2 (by unfold fits; omega)
 rw [this]; split <;> rename_i h
 · rw [h]; rfl
 · rw [Bool.not_eq_true] at h; rw [h]; rfl
theorem zn2 (a b:List Int) (ha:a.length < 1000000000):cw zbY [.sl 1 (List.map zad a),.sl 1 (List.map zad b)] []=some (zaR (decide (a=b))):=by
 refine zli a b ?_; rw [zn1]; simp only [List.length_map,bne_iff_ne,ne_eq]; split
 · rename_i h; rw [decide_eq_false (fun e=>h (by rw [e]))]; rfl
 · rename_i h; have hl:a.length=b.length:=by omega
   refine zbR a (fun i r=>zcP a b (i:Nat)=some (zaR (decide (r=b.drop i)))) ?_ ?_ |>.trans (by rw [List.drop_zero])
   · refine zgt a b _ ?_; rw [zaz (by simp)]; rw [hl,List.drop_length]; rfl
   · intro i x r hi hx hr ih; refine zgt a b _ ?_; have hib:i < b.length:=by omega
     rw [zax (by simp; omega),cPQ,zcs,show ((i:Nat):Int).toNat=i from rfl,List.getElem?_eq_getElem hi,Option.bind_some,cPQ,zcs,List.getElem?_eq_getElem hib,Option.bind_some,zn1,hx]; by_cases he:x=b[i]
     · have e2:decide (x :: r=b.drop i)=decide (r=b.drop (i+1)):=by rw [List.drop_eq_getElem_cons hib]; exact decide_eq_decide.2 (by rw [List.cons.injEq]; exact ⟨fun h=>h.2,fun h=>⟨he,h⟩⟩)
       rw [if_neg (by simp [he]),w6Q,show ((i:Nat):Int)+1=((i+1:Nat):Int) by omega,ih,e2]
     · rw [if_pos (by simpa using he),decide_eq_false (fun q=>by rw [List.drop_eq_getElem_cons hib,List.cons.injEq] at q; exact he q.1)]; rfl
theorem zn0 (b c:Bool):brn b (some (B c,([]:Mem))) (some (B false,[]))=some (B (b && c),[]):=by cases b <;> rfl
theorem c_same (a b:GOp) (h1:a.Bounds.length < 1000000000) (h2:a.Script.Pages.length < 1000000000) (h3:a.Script.Answers.length < 1000000000) (h4:a.Event.Pages.length < 1000000000):cw ziw [.agg (nGOp a),.agg (nGOp b)] []=some (zaR (decide (a=b))):=by
 refine zrw a b ?_; rw [zn2 _ _ h1,zn2 _ _ h2,zn2 _ _ h3,zn2 _ _ h4]; simp only [zaO,zn0]; obtain ⟨k,⟨e1,e2,e3⟩,⟨s1,s2,s3,s4,s5,s6,s7⟩,⟨⟨v1,v2,v3⟩,v4,v5,v6,v7,v8,v9⟩,⟨p1,p2⟩,⟨⟨a1,a2,a3⟩,a4,a5,a6⟩,bs,t,n⟩:=a; obtain ⟨k',⟨e1',e2',e3'⟩,⟨s1',s2',s3',s4',s5',s6',s7'⟩,⟨⟨v1',v2',v3'⟩,v4',v5',v6',v7',v8',v9'⟩,⟨p1',p2'⟩,⟨⟨a1',a2',a3'⟩,a4',a5',a6'⟩,bs',t',n'⟩:=b; refine congrArg (fun b=>some (B b,([]:Mem))) ?_; rw [Bool.eq_iff_iff]; simp only [Bool.and_eq_true,beq_iff_eq,decide_eq_true_eq,and_true,GOp.mk.injEq,ze2.mk.injEq,zav.mk.injEq,zaH.mk.injEq,zc1.mk.injEq,zc5.mk.injEq,zdM.mk.injEq]
 grind
theorem znr (l:List (Option Addr)) (hl:l.length < 1000000):cw zbq [.sl 1 (List.map nPtr l)] []=some (zcf (l.map fun p=>(⟨p,none⟩:zaM))):=by
 refine zoF l ?_; refine zbR l (fun i r=>∀ x:List zaM,x.length≤i→zd0 l (List.map zaf x) (i:Nat)=some (zcf (x++r.map fun p=>(⟨p,none⟩:zaM)))) ?_ ?_ [] (Nat.le_refl _)
 · intro x hx; refine zim l _ _ ?_; rw [zaz (by simp),zai rfl]; simp only [List.map_nil,List.append_nil]; rfl
 · intro i p r hi hp hr ih x hx; refine zim l _ _ ?_; rw [zax (by simp; omega),cPQ,elemD_Ptr,show ((i:Nat):Int).toNat=i from rfl,List.getElem?_eq_getElem hi,Option.bind_some,zai rfl,zai (by simp; omega),zai rfl,w6Q,hp]; have:=ih (x++[⟨p,none⟩]) (by simp; omega); rw [List.map_append] at this; rw [show ((i:Nat):Int)+1=((i+1:Nat):Int) by omega]; refine this.trans ?_; simp
theorem c_stampOf (g n:Nat) (l:List (Option Addr)) (hl:l.length < 1000):cw zbZ [.v (.pointer (some ⟨g,n,none⟩)),.sl 1 (List.map nPtr l)] [] =
  some (zcf ((some ⟨g,n+0,none⟩ :: some ⟨g,n+1,none⟩ :: some ⟨g,n+2,none⟩ :: l:List (Option Addr)).map fun p=>(⟨p,none⟩:zaM))):=by
 refine zoH g n l ?_; rw [znr _ (by simp),zbD,znr l (by omega),zbD,zai (by simp),zai rfl,zai (by simp; omega),zai rfl,zai rfl,List.take_length,← List.map_append,← List.map_append]; rfl
def slotsS (w g:Nat):List zaM:=(slotsC w).map fun p=>if p.1 then ⟨none,some ⟨g,p.2,none⟩⟩ else ⟨some ⟨g,p.2,none⟩,none⟩
theorem n0:((0:Nat):Int)=0:=rfl
theorem n1:((1:Nat):Int)=1:=rfl
theorem n2:((2:Nat):Int)=2:=rfl
theorem n3:((3:Nat):Int)=3:=rfl
theorem n4:((4:Nat):Int)=4:=rfl
theorem n5:((5:Nat):Int)=5:=rfl
theorem n6:((6:Nat):Int)=6:=rfl
theorem n7:((7:Nat):Int)=7:=rfl
theorem n8:((8:Nat):Int)=8:=rfl
theorem n9:((9:Nat):Int)=9:=rfl
theorem n10:((10:Nat):Int)=10:=rfl
theorem n11:((11:Nat):Int)=11:=rfl
theorem zns {w:Nat} (g:Nat) (hw:w < 12):cw zdE [I w,.v (.pointer (some ⟨g,0,none⟩))] []=some (zcf (slotsS w g)):=by
 have hn:∀ l:List (Option Addr),l.length < 1000000→cw zbq [.sl 1 (List.map nPtr l)] []=some (zcf (l.map fun p=>(⟨p,none⟩:zaM))):=znr; have hs:∀ (g n:Nat) (l:List (Option Addr)),l.length < 1000→cw zbZ [.v (.pointer (some ⟨g,n,none⟩)),.sl 1 (List.map nPtr l)] []=_:=c_stampOf; rcases lt12' hw with rfl | rfl | rfl | rfl | rfl | rfl | rfl | rfl | rfl | rfl | rfl | rfl
 all_goals
  refine zoG _ g ?_; simp only [n0,n1,n2,n3,n4,n5,n6,n7,n8,n9,n10,n11,Int.reduceBEq,zas,zam,hn,hs,List.length_cons,List.length_nil,Nat.reduceAdd,Nat.reduceLT,zbD,zbD]
  first
   | (repeat rw [zai (by first | trivial | rfl | (simp; done) | omega)]
      rfl)
   | (refine zlt _ g ?_
      simp only [hn,List.length_cons,List.length_nil,Nat.reduceAdd,Nat.reduceLT,zbD]
      repeat rw [zai (by first | trivial | rfl | (simp; done) | omega)]
      rfl)
theorem c_blank {w:Nat} (hw:w < 12):cw zek [I w] []=some (zfY (blankS w)):=by refine zqI w ?_; rcases lt12' hw with rfl | rfl | rfl | rfl | rfl | rfl | rfl | rfl | rfl | rfl | rfl | rfl <;> rfl
theorem ztB {w:Nat} (hw:w < 12) (o:GOp):isForm o w=(o.Kind == (blankS w).Kind && ((o.Kind != 2) == true || (o.Event.Kind == (blankS w).Event.Kind)) && ((o.Kind != 4) == true || o.Appeal.Kind == (blankS w).Appeal.Kind)):=by
 unfold isForm; rw [Bool.eq_iff_iff]; simp
 grind
theorem c_formOf (o:GOp):cw zhq [.agg (nGOp o)] []=some (zfq (zbT o)):=by
 refine zpV o ?_
 have key:∀ (k i:Nat),i+k=12→zb7 o (i:Nat)=some (zfq ((((List.range' i k).find? (isForm o)).getD 12:Nat):Int)):=by
  intro k
  induction k with
  | zero=>intro i hi; refine zi3 o _ ?_; rw [zaz (by omega)]; rfl
  | succ k ih =>
    intro i hi; refine zi3 o _ ?_; have h12:i < 12:=by omega
    rw [zax (by omega),c_blank h12,zdX,w6Q,show ((i:Nat):Int)+1=((i+1:Nat):Int) by omega,ih (i+1) (by omega),List.range'_succ,List.find?_cons]; simp only [zn1]; have hk:=ztB h12 o
    cases hf:isForm o i with
    | true =>
      rw [hf] at hk; simp only [Option.getD_some]; simp at hk
      repeat' split
      all_goals first | rfl | (exfalso; simp_all; done) | (exfalso; grind)
    | false =>
      rw [hf] at hk; simp only [Nat.add_one]
      repeat' split
      all_goals first | rfl | (exfalso; simp_all; done) | (exfalso; grind)
 have:=key 12 0 rfl
 rwa [← List.range_eq_range'] at this
end Go.Proofs.YtdclabgakicjeaaGreatDoor
namespace Go.Proofs.YtdclabgakicjeaaGreatDoor
open Go.Ab Go.Str
set_option maxRecDepth 20000
theorem u8_id {n:Int} (h1:0≤n) (h2:n < 256):IntKind.wrap .u8 n=n:=by simp only [IntKind.wrap,IntKind.bits,IntKind.signed,show ((2:Int) ^ 8)=256 from rfl,Bool.false_and,Bool.false_eq_true,if_false]; omega
theorem ziA {k:Nat} (c:UInt8):∀ (ws:List (List UInt8)),(∀ w∈ws,w.length≤k)→(Lib.join ws [c]).length≤(k+1)*ws.length
 | [],_=>by simp [Lib.join_nil]
 | [w],h=>by rw [Lib.join_one]; have:=h w (by simp); simp; omega
 | w :: v :: r,h=>by
   have e:Lib.join (w :: v :: r) [c]=w++c :: Lib.join (v :: r) [c]:=by simp [Lib.join,List.intercalate,List.intersperse]
   have ih:=ziA c (v :: r) (fun x hx=>h x (by simp [hx])); have:=h w (by simp); rw [e]; simp only [List.length_append,List.length_cons] at ih ⊢; rw [Nat.mul_add,Nat.mul_add] at *; omega
theorem zda {n:Int} (h:W64 n):(Lib.itoa n).length≤20:=by
 unfold Lib.itoa; obtain ⟨h1,h2⟩:=h; split
 · rw [List.length_cons,zjK]; have:=zjQ (u:=n.natAbs) (k:=19) (by show _ < 10000000000000000000; omega) (by omega); omega
 · rw [zjK]; have:=zjQ (u:=n.toNat) (k:=19) (by show _ < 10000000000000000000; omega) (by omega); omega
theorem c_listText (l:List Int) (hl:l.length≤1000) (hw:∀ n∈l,W64 n):∃ s,cw zgd [.sl 1 (List.map zad l)] []=some (zbM (s,decide (l.length≤300∧∀ n∈l,fits n)))∧((l.length≤300∧∀ n∈l,fits n)→s=tx (wordL l)):=by
 by_cases h0:l=[]
 · subst h0; exact ⟨_,zei [] rfl,fun _=>rfl⟩
 by_cases h3:300 < l.length
 · refine ⟨tx [],zei l ?_,fun h=>by omega⟩; have hb:(((List.map zad l).length:Int) == 0)=false:=by rw [beq_eq_false_iff_ne,List.length_map]; omega
   rw [hb,zam,zax (by rw [List.length_map]; omega),decide_eq_false (by omega)]; rfl
 · have key:∀ ws:List (List UInt8),ws.length≤0→(∀ w∈ws,w.length≤20)→zcN l (List.map nStr (ws.map tx)) (0:Nat)=some (zbM (if ∀ n∈l,fits n then (tx (Lib.join (ws++l.map Lib.itoa) [44]),true) else (tx [],false))):=by
    refine zbR l (fun i r=>∀ ws:List (List UInt8),ws.length≤i→(∀ w∈ws,w.length≤20)→zcN l (List.map nStr (ws.map tx)) (i:Nat)=some (zbM (if ∀ n∈r,fits n then (tx (Lib.join (ws++r.map Lib.itoa) [44]),true) else (tx [],false)))) ?_ ?_
    · intro ws h1 h2; refine zia l _ _ ?_; have hj:=ziA 44 ws h2; rw [zaz (by rw [List.length_map]; omega),cPQ,List.take_length,show (zhB:ByteArray)=tx [44] from rfl,c_Join (by omega) (by omega),zaw]; simp; rfl
    · intro i x r hi hx hr ih ws h1 h2; have hxw:W64 x:=hw x (by rw [← hx]; exact List.getElem_mem hi); refine zia l _ _ ?_; rw [zax (by rw [List.length_map]; omega),cPQ,zcs,show ((i:Nat):Int).toNat=i from rfl,List.getElem?_eq_getElem hi,Option.bind_some,hx,c_fits,zaO]; by_cases hf:fits x
      · rw [decide_eq_true hf,Bool.not_true,zam,c_Itoa hxw,zaw,zai rfl,zai (by simp; omega),zai rfl,w6Q,show ((i:Nat):Int)+1=((i+1:Nat):Int) by omega]; have e:List.map nStr (ws.map tx)++[nStr (tx (Lib.itoa x))]=List.map nStr ((ws++[Lib.itoa x]).map tx):=by simp
        rw [e,ih (ws++[Lib.itoa x]) (by simp; omega) (fun w hm=>by
         rcases List.mem_append.1 hm with hm | hm
         · exact h2 w hm
         · rw [List.mem_singleton.1 hm]; exact zda hxw)]
        simp [hf]
      · rw [decide_eq_false hf,Bool.not_false,zas,if_neg (fun q=>hf (q x (by simp)))]; rfl
   have hk:=key [] (Nat.le_refl _) (by simp)
   have hb:(((List.map zad l).length:Int) == 0)=false:=by
    rw [beq_eq_false_iff_ne,List.length_map]; have:l.length≠0:=fun e=>h0 (List.eq_nil_of_length_eq_zero e)
    omega
   by_cases hf:∀ n∈l,fits n
   · rw [if_pos hf] at hk; refine ⟨tx (wordL l),zei l ?_,fun _=>rfl⟩; rw [hb,zam,zaz (by rw [List.length_map]; omega),decide_eq_true (by exact ⟨by omega,hf⟩)]; refine hk.trans ?_; unfold wordL; rw [if_neg h0]; rfl
   · rw [if_neg hf] at hk; refine ⟨tx [],zei l ?_,fun q=>absurd q.2 hf⟩; rw [hb,zam,zaz (by rw [List.length_map]; omega),decide_eq_false (fun q=>hf q.2)]; exact hk
theorem c_textN {n:Int} (h:W64 n):cw zcn [.agg [.fp [I n],.v (.pointer none)]] []=some (zbM (tx (Lib.itoa n),decide (fits n))):=by refine zmW n ?_; rw [c_Itoa h,zaw,c_fits,zaO]; rfl
theorem c_textL (l:List Int) (hl:l.length≤1000) (hw:∀ n∈l,W64 n):∃ s,cw zcn [.agg [.v (.pointer none),.fp [.sl 1 (List.map zad l)]]] []=some (zbM (s,decide (l.length≤300∧∀ n∈l,fits n)))∧((l.length≤300∧∀ n∈l,fits n)→s=tx (wordL l)):=by obtain ⟨s,h1,h2⟩:=c_listText l hl hw; refine ⟨s,zlK l ?_,h2⟩; rw [h1,zcZ]; rfl
theorem zfz {l:List UInt8} {i:Nat} (h:i < l.length):strAt (tx l) (i:Nat)=(l[i].toNat:Int):=by
 unfold strAt
 have:(tx l)[i]?=some l[i]:=by show (tx l).data[i]?=_; simp [tx,h]
 rw [show ((i:Nat):Int).toNat=i from rfl,this]; rfl
theorem c_numLoop (ds:List UInt8) (neg:Bool) (hl:ds.length≤18):zbu (tx ds,neg) 0 0=some (zbG (if ds.all isDig=true then (if neg then -(val 0 ds:Int) else val 0 ds,true) else (0,false))):=by
 have key:∀ v:Nat,v < 10 ^ 0→zbu (tx ds,neg) (v:Nat) (0:Nat)=some (zbG (if ds.all isDig=true then (if neg then -(val v ds:Int) else val v ds,true) else (0,false))):=by
  refine zbR ds (fun i r=>∀ v:Nat,v < 10 ^ i→zbu (tx ds,neg) (v:Nat) (i:Nat)=some (zbG (if r.all isDig=true then (if neg then -(val v r:Int) else val v r,true) else (0,false)))) ?_ ?_
  · intro v hv; have hv2:v < 1000000000000000000:=Nat.lt_of_lt_of_le hv (Nat.le_trans (Nat.pow_le_pow_right (by omega) hl) (by decide)); refine zib _ _ _ ?_; rw [zaz (by rw [zap]; omega)]
    cases neg with
    | true=>rw [zas,w6Q]; simp [val]; rfl
    | false=>rw [zam]; simp [val]; rfl
  · intro i d r hi hd hr ih v hv; have hv2:v < 100000000000000000:=Nat.lt_of_lt_of_le hv (Nat.le_trans (Nat.pow_le_pow_right (by omega) (show i≤17 by omega)) (by decide)); refine zib _ _ _ ?_; have hsz:((i:Nat):Int) < ((tx ds).size:Int):=by rw [zap]; omega
    have hst:=zfz hi; rw [hd] at hst; rw [zax hsz,cPQ,zai hsz,hst]; by_cases h1:d.toNat < 48
    · rw [zax (by omega),if_neg (by simp [isDig]; omega)]; rfl
    · rw [zaz (by omega),cPQ,zai hsz]; by_cases h2:57 < d.toNat
      · rw [zax (by omega),if_neg (by simp [isDig]; omega)]; rfl
      · rw [zaz (by omega),cPQ,zai hsz,u8_id (by omega) (by omega),w6Q (n:=(v:Int)*10),w6Q (n:=(d.toNat:Int) - 48),w6Q,w6Q (n:=(i:Int)+1)]; have:=ih (10*v+(d.toNat - 48)) (by rw [Nat.pow_succ]; omega); rw [show ((v:Nat):Int)*10+((d.toNat:Int) - 48)=((10*v+(d.toNat - 48):Nat):Int) by omega,show ((i:Nat):Int)+1=((i+1:Nat):Int) by omega,this]; have hdg:isDig d=true:=by simp [isDig]; omega
        simp only [List.all_cons,hdg,Bool.true_and]; rfl
 exact key 0 (by decide)
def numR (l:List UInt8):Int×Bool:=match numS l with
 | some n=>(n,true)
 | none=>(0,false)
theorem c_numW (ds:List UInt8) (neg:Bool) {y:AV×Mem} (hy:some y=some (zbG (match numW neg ds with | some n=>(n,true) | none=>(0,false)))):(brn (decide (((tx ds).size:Int) < 1)) (some (AV.tup [I 0,B false],[])) (brn (decide (18 < ((tx ds).size:Int))) (some (AV.tup [I 0,B false],[]))
  (chk ((0:Int)≤0)<|chk ((0:Int) < ((tx ds).size:Int))<|
   brn (strAt (tx ds) 0 == 48) (brn neg (some (AV.tup [I 0,B false],[])) (brn (decide (1 < ((tx ds).size:Int))) (some (AV.tup [I 0,B false],[])) (zbu (tx ds,neg) 0 0))) (zbu (tx ds,neg) 0 0))))=some y:=by
 rw [hy,zap]; unfold numW; by_cases h1:ds.length < 1
 · rw [zax (by omega),if_pos (.inl h1)]; rfl
 by_cases h2:18 < ds.length
 · rw [zaz (by omega),zax (by omega),if_pos (.inr (.inl h2))]; rfl
 rw [zaz (by omega),zaz (by omega),cPQ,cPQ]; have h0:0 < ds.length:=by omega
 have hst:strAt (tx ds) 0=(ds[0].toNat:Int):=zfz h0; have hhd:ds.head?=some ds[0]:=by cases ds with | nil=>simp at h0 | cons _ _=>rfl
 rw [hst,c_numLoop ds neg (by omega),hhd]; have h48:ds[0]=48↔ds[0].toNat=48:=⟨fun e=>by rw [e]; rfl,fun e=>UInt8.toNat_inj.1 (e.trans rfl)⟩
 by_cases hz:ds[0]=48
 · have hzn:=h48.1 hz; rw [hzn,show (((48:Nat):Int) == 48)=true from rfl,zas]
   cases neg with
   | true=>rw [zas,if_pos (.inr (.inr (.inl ⟨congrArg some hz,.inl rfl⟩)))]; rfl
   | false =>
     rw [zam]; by_cases h3:1 < ds.length
     · rw [zax (by omega),if_pos (.inr (.inr (.inl ⟨congrArg some hz,.inr h3⟩)))]; rfl
     · rw [zaz (by omega)]
       cases hall:ds.all isDig with
       | true =>
         have hc:¬ (ds.length < 1∨18 < ds.length∨(some ds[0]=some 48∧(false=true∨1 < ds.length))∨true=false):=by
          rintro (q | q | ⟨_,q | q⟩ | q)
          · omega
          · omega
          · cases q
          · omega
          · cases q
         rw [if_pos rfl,if_neg hc]
       | false=>rw [iNs,if_pos (.inr (.inr (.inr rfl)))]
 · have hzn:¬ ds[0].toNat=48:=fun e=>hz (h48.2 e)
   rw [show (((ds[0].toNat:Nat):Int) == 48)=false from by rw [beq_eq_false_iff_ne]; omega,zam]
   cases hall:ds.all isDig with
   | true =>
     have hc:¬ (ds.length < 1∨18 < ds.length∨(some ds[0]=some 48∧(neg=true∨1 < ds.length))∨true=false):=by
      rintro (q | q | ⟨q,_⟩ | q)
      · omega
      · omega
      · exact hz (Option.some.inj q)
      · cases q
     rw [if_pos rfl,if_neg hc]
   | false=>rw [iNs,if_pos (.inr (.inr (.inr rfl)))]
theorem zqA (l:List UInt8):cw zel [.v (.string (tx l))] []=some (zbG (numR l)):=by
 refine znv (tx l) ?_; rw [show (zhC:ByteArray)=tx [45] from rfl,c_Pre,zcZ]
 cases l with
 | nil=>exact c_numW [] false rfl
 | cons d r =>
   by_cases hd:d=45
   · subst hd; have e1:Lib.trimPrefix (45 :: r) [45]=r:=by simp [Lib.trimPrefix,Lib.hasPrefix,List.isPrefixOf]
     have e2:Lib.hasPrefix (45 :: r) [45]=true:=by simp [Lib.hasPrefix,List.isPrefixOf]
     rw [e1,e2]; exact c_numW r true (by simp [numR,numS])
   · have e2:Lib.hasPrefix (d :: r) [45]=false:=by
      have h45:¬ (45:UInt8)=d:=fun e=>hd e.symm
      simp [Lib.hasPrefix,List.isPrefixOf,h45]
     have e1:Lib.trimPrefix (d :: r) [45]=d :: r:=by simp [Lib.trimPrefix,e2]
     rw [e1,e2]; exact c_numW (d :: r) false (by simp [numR,numS,hd])
end Go.Proofs.YtdclabgakicjeaaGreatDoor
namespace Go.Proofs.YtdclabgakicjeaaGreatDoor
open Go.Ab Go.Str
set_option maxRecDepth 100000
def listR (l:List UInt8):List Int×Bool:=match readL l with
 | some n=>(n,true)
 | none=>([],false)
theorem tx_beq (a b:List UInt8):(tx a == tx b)=decide (a=b):=by
 show (a.toArray == b.toArray)=_; by_cases h:a=b
 · subst h; simp
 · simp [h]
theorem zh8 (c:UInt8):∀ l:List UInt8,(splitC c l).length≤l.length+1
 | []=>by simp [splitC]
 | b :: r=>by
   have ih:=zh8 c r; have hne:=zgq c r; unfold splitC; split
   · simp; omega
   · cases h:splitC c r with
     | nil=>exact absurd h hne
     | cons a t=>rw [h] at ih; simp at ih ⊢; omega
theorem zk5:∀ (ws:List (List UInt8)) (n:List Int),numsS ws=some n→n.length=ws.length
 | [],n,h=>by injection h with h; subst h; rfl
 | w :: r,n,h=>by
   unfold numsS at h
   cases h1:numS w with
   | none=>rw [h1] at h; cases h
   | some a =>
     cases h2:numsS r with
     | none=>rw [h1,h2] at h; cases h
     | some t=>rw [h1,h2] at h; injection h with h; subst h; rw [List.length_cons,List.length_cons,zk5 r t h2]
theorem c_listOf (l:List UInt8) (hl:l.length < 4294967281):cw zhr [.v (.string (tx l))] []=some (zdp (listR l)):=by
 refine zpX (tx l) ?_; unfold listR readL; by_cases h0:l=[45]
 · subst h0; rw [if_pos rfl,show (zfO:ByteArray)=tx [45] from rfl,tx_beq,decide_eq_true rfl,zas]; rfl
 rw [show (zfO:ByteArray)=tx [45] from rfl,tx_beq,decide_eq_false h0,zam,if_neg h0,show (zik:ByteArray)=tx [44] from rfl,c_Split hl,zdY]; have hsz:(splitC 44 l).length≤l.length+1:=zh8 44 l; generalize splitC 44 l=ws at hsz
 have key:∀ acc:List Int,acc.length=0→0≤300→zdl (ws.map tx) (List.map zad acc) (0:Nat)=some (zdp (match numsS ws with | some n=>if 0+n.length≤300 then (acc++n,true) else ([],false) | none=>([],false))):=by
  refine zbR ws (fun i r=>∀ acc:List Int,acc.length=i→i≤300→zdl (ws.map tx) (List.map zad acc) (i:Nat)=some (zdp (match numsS r with | some n=>if i+n.length≤300 then (acc++n,true) else ([],false) | none=>([],false)))) ?_ ?_
  · intro acc ha hi; refine zi5 _ _ _ ?_; rw [zaz (by rw [List.length_map,List.length_map]; omega),cPQ,List.take_length]; simp only [numsS,List.length_nil,List.append_nil]; rw [iPQ]; rfl
  · intro i x r hi hx hr ih acc ha hi3; refine zi5 _ _ _ ?_; have hxi:(ws.map tx)[i]?=some (tx x):=by rw [List.getElem?_map,List.getElem?_eq_getElem hi,hx]; rfl
    rw [zax (by rw [List.length_map,List.length_map]; omega),cPQ,zai (by rw [List.length_map,List.length_map]; omega),zdJ,show 0+((i:Nat):Int).toNat=i by omega,hxi,Option.bind_some,zqA,zeh]; unfold numR
    cases hn:numS x with
    | none=>simp only [numsS,hn]; rw [Bool.not_false,zas]; rfl
    | some n =>
      simp only; rw [Bool.not_true,zam]; by_cases h3:i=300
      · rw [show (((List.map zad acc).length:Int) == 300)=true from by rw [beq_iff_eq,List.length_map]; omega,zas]; simp only [numsS,hn]
        cases numsS r with
        | none=>rfl
        | some t=>simp only; rw [if_neg (by simp; omega)]; rfl
      · rw [show (((List.map zad acc).length:Int) == 300)=false from by rw [beq_eq_false_iff_ne,List.length_map]; omega,zam,zai trivial,zai (by rw [List.length_map]; omega),zai trivial,w6Q,show ((i:Nat):Int)+1=((i+1:Nat):Int) by omega]; have e:List.map zad acc++[zad n]=List.map zad (acc++[n]):=by simp
        rw [e,ih (acc++[n]) (by simp; omega) (by omega)]; simp only [numsS,hn]
        cases numsS r with
        | none=>rfl
        | some t =>
          simp only [List.length_cons,List.append_assoc,List.singleton_append]; by_cases hq:i+1+t.length≤300
          · rw [if_pos hq,iPQ]
          · rw [if_neg hq,iNQ]
 have hk:=key [] rfl (by decide); refine hk.trans ?_; have hnl:∀ n,numsS ws=some n→n.length=ws.length:=fun n=>zk5 ws n
 cases hn:numsS ws with
 | none =>
   simp only; by_cases hq:ws.length≤300
   · rw [if_pos hq]
   · rw [if_neg hq]
 | some n =>
   have:=hnl n hn; simp only [List.nil_append]; by_cases hq:ws.length≤300
   · rw [if_pos hq,iPQ]
   · rw [if_neg hq,iNQ]
theorem read_n {off:Nat} (h:off∈[1,2,3,4,5,6,7,8,11,12,13,15,16,17,18,20,21,22,23,24,26,27,29,30]) (x:GOp) (l:List UInt8):cw zcm [.agg [.loc 1000 31 0 off,.v (.pointer none)],.v (.string (tx l))] [(1000,⟨31,zag,[nGOp x],true⟩)]=some (zc3 ((numR l).2,putN (numR l).1 off x)):=by
 have hc:=zqA l; generalize tx l=w at hc
 have key:∀ {y:AV×Mem},(callD zcH (cw zel [AV.v (.string w)] []) fun (r0:Int×Bool)=>some (B r0.snd,[(1000,⟨31,zag,[nGOp (putN r0.1 off x)],true⟩)]))=some y→cw zcm [.agg [.loc 1000 31 0 off,.v (.pointer none)],.v (.string w)] [(1000,⟨31,zag,[nGOp x],true⟩)]=some y:=by
  clear hc; simp only [List.mem_cons,List.mem_nil_iff,or_false] at h; rcases h with rfl | rfl | rfl | rfl | rfl | rfl | rfl | rfl | rfl | rfl | rfl | rfl | rfl | rfl | rfl | rfl | rfl | rfl | rfl | rfl | rfl | rfl | rfl | rfl
  all_goals
   intro y h; exact zmg zih zT [] rfl (by kernel_rfl) (by kernel_rfl) (by kernel_rfl) (by kernel_rfl) (by kernel_rfl) h
 refine key ?_; rw [hc,zeh]; rfl
theorem read_l {off:Nat} (h:off∈[9,10,19,28]) (x:GOp) (l:List UInt8) (hl:l.length < 4294967281):cw zcm [.agg [.v (.pointer none),.loc 1000 31 0 off],.v (.string (tx l))] [(1000,⟨31,zag,[nGOp x],true⟩)]=some (zc3 ((listR l).2,putL (listR l).1 off x)):=by
 have hc:=c_listOf l hl; generalize tx l=w at hc
 have key:∀ {y:AV×Mem},(callD zfe (cw zhr [AV.v (.string w)] []) fun (r0:(List Int)×Bool)=>some (B r0.snd,[(1000,⟨31,zag,[nGOp (putL r0.1 off x)],true⟩)]))=some y→cw zcm [.agg [.v (.pointer none),.loc 1000 31 0 off],.v (.string w)] [(1000,⟨31,zag,[nGOp x],true⟩)]=some y:=by
  clear hc; simp only [List.mem_cons,List.mem_nil_iff,or_false] at h; rcases h with rfl | rfl | rfl | rfl
  all_goals
   intro y h; exact zmg zih zT [] rfl (by kernel_rfl) (by kernel_rfl) (by kernel_rfl) (by kernel_rfl) (by kernel_rfl) h
 refine key ?_; rw [hc,zkn]; rfl
theorem slots_n {W i off:Nat} (h:(slotsC W)[i]?=some (false,off)):off∈[1,2,3,4,5,6,7,8,11,12,13,15,16,17,18,20,21,22,23,24,26,27,29,30]:=by
 have hW:W < 12:=by
  rcases Nat.lt_or_ge W 12 with q | q
  · exact q
  · rw [show slotsC W=[] from by unfold slotsC; split <;> first | omega | rfl] at h; simp at h
 have key:∀ W < 12,∀ p∈slotsC W,p.1=false→p.2∈[1,2,3,4,5,6,7,8,11,12,13,15,16,17,18,20,21,22,23,24,26,27,29,30]:=by decide
 exact key W hW _ (List.mem_of_getElem? h) rfl
theorem slots_l {W i off:Nat} (h:(slotsC W)[i]?=some (true,off)):off∈[9,10,19,28]:=by
 have hW:W < 12:=by
  rcases Nat.lt_or_ge W 12 with q | q
  · exact q
  · rw [show slotsC W=[] from by unfold slotsC; split <;> first | omega | rfl] at h; simp at h
 have key:∀ W < 12,∀ p∈slotsC W,p.1=true→p.2∈[9,10,19,28]:=by decide
 exact key W hW _ (List.mem_of_getElem? h) rfl
end Go.Proofs.YtdclabgakicjeaaGreatDoor
namespace Go.Proofs.YtdclabgakicjeaaGreatDoor
open Go.Ab Go.Str
set_option maxRecDepth 100000
theorem znH (w:List UInt8) (n:Int) (ns:List Int):zbo w (n :: ns)=zbo (w++32 :: Lib.itoa n) ns:=rfl
theorem zbQ:∀ (ns:List Int) (w:List UInt8),(∀ n∈ns,W64 n)→(zbo w ns).length≤w.length+21*ns.length
 | [],w,_=>by simp [zbo]
 | n :: ns,w,h=>by rw [znH]; have:=zbQ ns (w++32 :: Lib.itoa n) (fun m hm=>h m (by simp [hm])); have h2:=zda (h n (by simp)); simp only [List.length_append,List.length_cons] at this ⊢; omega
theorem zkm {w:List UInt8} {ns:List Int} (hw:w.length≤1000000) (hl:ns.length≤1000) (hn:∀ n∈ns,W64 n):cw zcA [.v (.string (tx w)),.sl 1 (List.map zad ns)] []=some (zaA (tx (zbo w ns))):=by
 refine zpW (tx w) ns ?_
 have key:∀ v:List UInt8,v.length≤1000000+21*0→zdk ns (tx v) (0:Nat)=some (zaA (tx (zbo v ns))):=by
  refine zbR ns (fun i r=>∀ v:List UInt8,v.length≤1000000+21*i→zdk ns (tx v) (i:Nat)=some (zaA (tx (zbo v r)))) ?_ ?_
  · intro v hv; refine zi4 ns _ _ ?_; rw [zaz (by rw [List.length_map]; omega)]; rfl
  · intro i x r hi hx hr ih v hv; have hxw:W64 x:=hn x (by rw [← hx]; exact List.getElem_mem hi); have hxl:=zda hxw; refine zi4 ns _ _ ?_; rw [zax (by rw [List.length_map]; omega),cPQ,zcs,show ((i:Nat):Int).toNat=i from rfl,List.getElem?_eq_getElem hi,Option.bind_some,hx,c_Itoa hxw,zaw,show (zdW:ByteArray)=tx [32] from rfl,zai (by rw [zap,zap]; simp; omega),zaY,zai (by rw [zap,zap]; simp; omega),zaY,w6Q,show ((i:Nat):Int)+1=((i+1:Nat):Int) by omega]; rw [ih _ (by simp; omega)]; rfl
 exact key w (by omega)
theorem zkA {o:zaG} (h:OutW o):(outS o).length≤200:=by
 have h1:=zda h.1; unfold outS; split
 · have:=zbQ [o.Grade,o.Total] (Lib.itoa o.Candidate++[32,103,114,97,100,101]) (fun n hn=>by
    simp only [List.mem_cons,List.mem_nil_iff,or_false] at hn; rcases hn with rfl | rfl
    · exact h.2.1
    · exact h.2.2.1)
   simp only [List.length_append,List.length_cons,List.length_nil] at this ⊢; omega
 · split
   · simp only [List.length_append,List.length_cons,List.length_nil]; omega
   · split
     · have:=zbQ [o.Reason] (Lib.itoa o.Candidate++[32,112,101,110,100,105,110,103]) (fun n hn=>by
        simp only [List.mem_cons,List.mem_nil_iff,or_false] at hn; subst hn
        exact h.2.2.2)
       simp only [List.length_append,List.length_cons,List.length_nil] at this ⊢; omega
     · simp
theorem znq {o:zaG} (h:OutW o):cw zdD [.agg (zaF o)] []=some (zaA (tx (outS o))):=by
 refine zoE o ?_; have h1:=zda h.1; rw [c_Itoa h.1,zaw,show (zfj:ByteArray)=tx [32,103,114,97,100,101] from rfl,show (zfk:ByteArray)=tx [32,97,98,115,101,110,116] from rfl,show (zfl:ByteArray)=tx [32,112,101,110,100,105,110,103] from rfl,zaY,zaY,zaY]; unfold outS; by_cases k0:o.Kind=0
 · rw [show (o.Kind == 0)=true from beq_iff_eq.2 k0,zas,zai (by rw [zap,zap]; simp; omega),zkm (by simp; omega) (by simp) (fun n hn=>by
    simp only [List.mem_cons,List.mem_nil_iff,or_false] at hn; rcases hn with rfl | rfl
    · exact h.2.1
    · exact h.2.2.1),zaw,if_pos k0]
   rfl
 rw [show (o.Kind == 0)=false from beq_eq_false_iff_ne.2 k0,zam,if_neg k0]; by_cases k1:o.Kind=1
 · rw [show (o.Kind == 1)=true from beq_iff_eq.2 k1,zas,zai (by rw [zap,zap]; simp; omega),if_pos k1]; rfl
 rw [show (o.Kind == 1)=false from beq_eq_false_iff_ne.2 k1,zam,if_neg k1]; by_cases k2:o.Kind=2
 · rw [show (o.Kind == 2)=true from beq_iff_eq.2 k2,zas,zai (by rw [zap,zap]; simp; omega),zkm (by simp; omega) (by simp) (fun n hn=>by
    simp only [List.mem_cons,List.mem_nil_iff,or_false] at hn; subst hn
    exact h.2.2.2),zaw,if_pos k2]
   rfl
 rw [show (o.Kind == 2)=false from beq_eq_false_iff_ne.2 k2,zam,if_neg k2]; rfl
end Go.Proofs.YtdclabgakicjeaaGreatDoor
namespace Go.Proofs.YtdclabgakicjeaaGreatDoor
open Go.Ab Go.Str
set_option maxRecDepth 100000
theorem zsa (d:UInt8) (r:List UInt8):numS (d :: r)=if d=45 then numW true r else numW false (d :: r):=rfl
theorem byte1_dig {k:Nat} (hk:k < 10):byte1 (IntKind.u8.wrap (wu64 (48+(k:Int))))=tx [UInt8.ofNat (48+k)]:=by rw [zlZ (by omega) (by omega),u8_id (by omega) (by omega)]; unfold byte1; rw [show (48+(k:Int)).toNat=48+k by omega]; rfl
theorem dec_len {u:Nat} (h:u < 18446744073709551616):(Lib.decDigits u).length≤20:=by rw [zjK]; exact zjQ (k:=20) (by omega) (by omega)
theorem c_digits:∀ (u:Nat),u < 18446744073709551616→cw ze6 [.v (.int .u64 (u:Nat))] []=some (zaA (tx (Lib.decDigits u))):=by
 intro u
 induction u using Nat.strongRecOn with
 | _ u ih =>
   intro hu; refine zrB (u:Nat) ?_; rw [zai (by decide),show ((u:Nat):Int).tmod 10=((u % 10:Nat):Int) from rfl,byte1_dig (Nat.mod_lt _ (by decide)),Lib.decDigits]; by_cases h:u < 10
   · rw [zax (by omega),dif_pos h,Nat.mod_eq_of_lt h]; rfl
   · rw [zaz (by omega),zai (by decide),dif_neg h,show ((u:Nat):Int).tdiv 10=((u / 10:Nat):Int) from rfl,zlZ (by omega) (by omega),ih (u / 10) (by omega) (by omega),zaw]; have:=dec_len (u:=u / 10) (by omega); rw [zai (by rw [zap,zap]; simp; omega),zaY]; rfl
theorem znp {n:Int} (h:W64 n):cw zcM [I n] []=some (zaA (tx (Lib.itoa n))):=by
 obtain ⟨h1,h2⟩:=h; refine zqL n ?_; unfold Lib.itoa; by_cases h0:n < 0
 · rw [zax h0,if_pos h0,w6Q (n:=n+1),w6Q,zlZ (n:=0 - (n+1)) (by omega) (by omega),zlZ (by omega) (by omega),
    show 0 - (n+1)+1=((n.natAbs:Nat):Int) by omega,c_digits n.natAbs (by omega),zaw]
   have:=dec_len (u:=n.natAbs) (by omega); rw [show (zf6:ByteArray)=tx [45] from rfl,zai (by rw [zap,zap]; simp; omega),zaY]; rfl
 · rw [zaz h0,if_neg h0,zlZ (by omega) (by omega),show n=((n.toNat:Nat):Int) by omega,c_digits _ (by omega),zaw]; rfl
theorem zjJ (l:List UInt8) (p:Nat) (hl:l.length≤p+18) (hp:p≤1):∀ (r:List UInt8) (i v:Nat),l.drop i=r→i+r.length=l.length→p≤i→v < 10 ^ (i - p)→zb9 (tx l) (v:Nat) (p:Nat) (i:Nat)=some (zbG (if r.all isDig=true then (if p=1 then -(val v r:Int) else val v r,true) else (0,false)))
 | [],i,v,hr,hi,hpi,hv=>by
   have hv2:v < 1000000000000000000:=Nat.lt_of_lt_of_le hv (Nat.le_trans (Nat.pow_le_pow_right (by omega) (show i - p≤18 by simp at hi; omega)) (by decide)); refine zkM _ _ _ _ ?_; simp only [List.length_nil] at hi; rw [zaz (by rw [zap]; omega)]; by_cases h1:p=1
   · rw [h1,show (((1:Nat):Int) == 1)=true from rfl,zas,w6Q]; simp [val]; rfl
   · rw [show (((p:Nat):Int) == 1)=false from by rw [beq_eq_false_iff_ne]; omega,zam,if_neg h1]; simp [val]; rfl
 | d :: r,i,v,hr,hi,hpi,hv=>by
   simp only [List.length_cons] at hi; have hil:i < l.length:=by omega
   have hd:l[i]=d∧l.drop (i+1)=r:=by rw [List.drop_eq_getElem_cons hil] at hr; injection hr with h1 h2; exact ⟨h1,h2⟩
   have hv2:v < 100000000000000000:=Nat.lt_of_lt_of_le hv (Nat.le_trans (Nat.pow_le_pow_right (by omega) (show i - p≤17 by omega)) (by decide)); refine zkM _ _ _ _ ?_; have hsz:((i:Nat):Int) < ((tx l).size:Int):=by rw [zap]; omega
   have hst:=zfz hil; rw [hd.1] at hst; rw [zax hsz,cPQ,zai hsz,hst]; by_cases h1:d.toNat < 48
   · rw [zax (by omega),if_neg (by simp [isDig]; omega)]; rfl
   · rw [zaz (by omega),cPQ,zai hsz]; by_cases h2:57 < d.toNat
     · rw [zax (by omega),if_neg (by simp [isDig]; omega)]; rfl
     · rw [zaz (by omega),cPQ,zai hsz,u8_id (by omega) (by omega),w6Q (n:=10*(v:Int)),w6Q (n:=(d.toNat:Int) - 48),w6Q,w6Q (n:=(i:Int)+1)]; have:=zjJ l p hl hp r (i+1) (10*v+(d.toNat - 48)) hd.2 (by omega) (by omega) (by rw [show i+1 - p=(i - p)+1 by omega,Nat.pow_succ]; omega); rw [show 10*((v:Nat):Int)+((d.toNat:Int) - 48)=((10*v+(d.toNat - 48):Nat):Int) by omega,show ((i:Nat):Int)+1=((i+1:Nat):Int) by omega,this]; have hdg:isDig d=true:=by simp [isDig]; omega
       simp only [List.all_cons,hdg,Bool.true_and]; rfl
theorem u8_48 {d:UInt8}:(((d.toNat:Nat):Int) == 48)=decide (d=48):=by
 by_cases h:d=48
 · subst h; rfl
 · rw [decide_eq_false h,beq_eq_false_iff_ne]; intro e; exact h (UInt8.toNat_inj.1 (by show d.toNat=48; omega))
theorem numW_no {neg:Bool} {ds:List UInt8} (h:ds.length < 1∨18 < ds.length∨(ds.head?=some 48∧(neg=true∨1 < ds.length))∨ds.all isDig=false):numW neg ds=none:=by unfold numW; exact if_pos h
theorem numW_yes {neg:Bool} {ds:List UInt8} (h:¬ (ds.length < 1∨18 < ds.length∨(ds.head?=some 48∧(neg=true∨1 < ds.length))∨ds.all isDig=false)):numW neg ds=some (if neg then -(val 0 ds:Int) else val 0 ds):=by unfold numW; exact if_neg h
def wR (neg:Bool) (ds:List UInt8):Int×Bool:=match numW neg ds with
 | some n=>(n,true)
 | none=>(0,false)
theorem wR_no {neg:Bool} {ds:List UInt8} (h:ds.length < 1∨18 < ds.length∨(ds.head?=some 48∧(neg=true∨1 < ds.length))∨ds.all isDig=false):wR neg ds=(0,false):=by unfold wR; rw [numW_no h]
theorem wR_yes {neg:Bool} {ds:List UInt8} (h:¬ (ds.length < 1∨18 < ds.length∨(ds.head?=some 48∧(neg=true∨1 < ds.length))∨ds.all isDig=false)):wR neg ds=(if neg then -(val 0 ds:Int) else val 0 ds,true):=by unfold wR; rw [numW_yes h]
theorem numR_pos {d:UInt8} {r:List UInt8} (h:d≠45):numR (d :: r)=wR false (d :: r):=by
 unfold numR wR; rw [zsa,if_neg h]
 try (cases numW false (d :: r) <;> rfl)
theorem numR_neg (r:List UInt8):numR (45 :: r)=wR true r:=by
 unfold numR wR; rw [zsa,if_pos rfl]
 try (cases numW true r <;> rfl)
theorem c_num0 {d:UInt8} {r:List UInt8} (hl:(d :: r).length < 4294967296) (hd:d≠45):zdw (tx (d :: r))=some (zbG (numR (d :: r))):=by
 refine zhQ _ ?_; simp only [List.length_cons] at hl; have hst:strAt (tx (d :: r)) 0=(d.toNat:Int):=zfz (l:=d :: r) (i:=0) (by simp); have hloop:=zjJ (d :: r) 0; rw [zap,numR_pos hd,show ((((d :: r).length:Nat):Int) == 0)=false from by rw [beq_eq_false_iff_ne,List.length_cons]; omega,zam]; by_cases h2:18 < (d :: r).length
 · rw [zax (by rw [w64_id (by omega) (by simp only [List.length_cons]; omega)]; omega),wR_no (.inr (.inl h2))]; rfl
 have hloop:=zjJ (d :: r) 0 (by omega) (by omega) (d :: r) 0 0 rfl (by simp) (by omega) (by decide); rw [zaz (by rw [w6Q]; omega),cPQ,zai (by simp only [List.length_cons]; omega),hst,u8_48]
 have fin:¬ (d=48∧1 < (d :: r).length)→zb9 (tx (d :: r)) 0 0 0=some (zbG (wR false (d :: r))):=fun hz=>by
  refine Eq.trans hloop ?_
  cases hall:(d :: r).all isDig with
  | true =>
    rw [if_pos rfl,iNQ,wR_yes]
    · rfl
    · rintro (q | q | ⟨q,q2 | q2⟩ | q)
      · simp at q
      · exact h2 q
      · cases q2
      · exact hz ⟨Option.some.inj q,q2⟩
      · rw [hall] at q; cases q
  | false=>rw [iNs,wR_no (.inr (.inr (.inr hall)))]
 by_cases hz:d=48
 · rw [decide_eq_true hz,zas]; by_cases h3:1 < (d :: r).length
   · rw [zax (by omega),wR_no (.inr (.inr (.inl ⟨by rw [hz]; rfl,.inr h3⟩)))]; rfl
   · rw [zaz (by omega)]; exact fin (fun q=>h3 q.2)
 · rw [decide_eq_false hz,zam]; exact fin (fun q=>hz q.1)
theorem c_num1 {r:List UInt8} (hl:r.length < 4294967295):zfT (tx (45 :: r))=some (zbG (numR (45 :: r))):=by
 refine zm0 _ ?_; rw [zap,numR_neg,List.length_cons]; by_cases h1:r.length < 1
 · rw [show ((((r.length+1:Nat)):Int) == 1)=true from by rw [beq_iff_eq]; omega,zas,wR_no (.inl h1)]; rfl
 rw [show ((((r.length+1:Nat)):Int) == 1)=false from by rw [beq_eq_false_iff_ne]; omega,zam]; by_cases h2:18 < r.length
 · rw [zax (by rw [w6Q]; omega),wR_no (.inr (.inl h2))]; rfl
 have hloop:=zjJ (45 :: r) 1 (by simp; omega) (by omega) r 1 0 rfl (by simp; omega) (by omega) (by decide)
 obtain ⟨e,t,rfl⟩:∃ e t,r=e :: t:=by
  cases r with
  | nil=>simp at h1
  | cons e t=>exact ⟨e,t,rfl⟩
 have hst1:strAt (tx (45 :: e :: t)) 1=(e.toNat:Int):=zfz (l:=45 :: e :: t) (i:=1) (by simp); rw [zaz (by rw [w6Q]; omega),cPQ,cPQ,hst1,u8_48]; by_cases hz:e=48
 · rw [decide_eq_true hz,zas,zax (by omega),wR_no (.inr (.inr (.inl ⟨by rw [hz]; rfl,.inl rfl⟩)))]; rfl
 · rw [decide_eq_false hz,zam]; refine Eq.trans hloop ?_
   cases hall:(e :: t).all isDig with
   | true =>
     rw [if_pos rfl,if_pos rfl,wR_yes]
     · rfl
     · rintro (q | q | ⟨q,_⟩ | q)
       · simp at q
       · exact h2 q
       · exact hz (Option.some.inj q)
       · rw [hall] at q; cases q
   | false=>rw [iNs,wR_no (.inr (.inr (.inr hall)))]
theorem c_number {l:List UInt8} (hl:l.length < 4294967295):cw zgE [.v (.string (tx l))] []=some (zbG (numR l)):=by
 refine zrC (tx l) ?_; rw [show (zjD:ByteArray)=tx [] from rfl,tx_beq]
 cases l with
 | nil=>rw [decide_eq_true rfl,Bool.not_true,zam]; exact zhQ _ rfl
 | cons d r =>
   have hst:strAt (tx (d :: r)) 0=(d.toNat:Int):=zfz (l:=d :: r) (i:=0) (by simp); simp only [List.length_cons] at hl; rw [decide_eq_false (by simp),Bool.not_false,zas,cPQ,zai (by rw [zap,List.length_cons]; omega),hst]; by_cases hd:d=45
   · subst hd; rw [show ((((45:UInt8).toNat:Nat):Int) == 45)=true from rfl,zas]; exact c_num1 (by omega)
   · rw [show (((d.toNat:Nat):Int) == 45)=false from by
      rw [beq_eq_false_iff_ne]; intro e
      exact hd (UInt8.toNat_inj.1 (by show d.toNat=45; omega)),zam]
     exact c_num0 (by simp; omega) hd
end Go.Proofs.YtdclabgakicjeaaGreatDoor
namespace Go.Proofs.YtdclabgakicjeaaGreatDoor
open Go.Ab Go.Str
set_option maxRecDepth 100000
theorem zre (l:List UInt8) (f i:Nat):(tx l).extract f i=tx ((l.drop f).take (i - f)):=by apply ByteArray.ext; rw [ByteArray.data_extract]; simp [tx]
theorem zlq (c:UInt8):∀ (l:List UInt8),∀ x∈splitC c l,x.length≤l.length
 | [],x,h=>by rw [show splitC c []=[[]] from rfl] at h; rw [List.mem_singleton.1 h]; exact Nat.le_refl _
 | b :: r,x,h=>by
   have ih:=zlq c r; unfold splitC at h; split at h
   · rcases List.mem_cons.1 h with rfl | h
     · simp
     · exact Nat.le_succ_of_le (ih x h)
   · cases hr:splitC c r with
     | nil=>exact absurd hr (zgq c r)
     | cons a t =>
       rw [hr] at h ih; rcases List.mem_cons.1 h with rfl | h
       · have:=ih a List.mem_cons_self; simp; omega
       · exact Nat.le_succ_of_le (ih x (List.mem_cons_of_mem _ h))
theorem ztE (l:List UInt8) (c:UInt8) (hl:l.length < 4294967281):∀ (r w:List UInt8) (f:Nat) (acc:List (List UInt8)),l.drop f=w++r→f+w.length+r.length=l.length→c ∉ w→acc.length≤f→zdx (tx l) c.toNat (List.map nStr (acc.map tx)) (f:Nat) ((f+w.length:Nat):Int)=some (zcS ((acc++splitC c (w++r)).map tx)):=by
 have cut:∀ (r w:List UInt8) (f:Nat) (acc:List (List UInt8)),l.drop f=w++r→f+w.length+r.length=l.length→acc.length≤f→zdx (tx l) c.toNat (List.map nStr ((acc++[w]).map tx)) ((f+w.length+1:Nat):Int) ((f+w.length+1:Nat):Int)=some (zcS ((acc++[w]++(if r=[] then [] else splitC c (r.drop 1))).map tx))→zev (tx l) c.toNat (List.map nStr (acc.map tx)) (f:Nat) ((f+w.length:Nat):Int)=some (zcS ((acc++[w]++(if r=[] then [] else splitC c (r.drop 1))).map tx)):=fun r w f acc hd hlen ha h=>by refine znU _ _ _ _ _ ?_; rw [cPQ,cPQ,cPQ,zai (by rw [zap]; omega),zai rfl,zai (by rw [List.length_map,List.length_map]; omega),zai rfl,zre,w6Q,show ((f+w.length:Nat):Int).toNat - ((f:Nat):Int).toNat=w.length by omega,show ((f:Nat):Int).toNat=f from rfl,hd,List.take_left,show ((f+w.length:Nat):Int)+1=((f+w.length+1:Nat):Int) by omega]; rw [show List.map nStr (acc.map tx)++[nStr (tx w)]=List.map nStr ((acc++[w]).map tx) by simp]; exact h
 intro r
 induction r with
 | nil =>
   intro w f acc hd hlen hw ha; simp only [List.length_nil] at hlen; refine zif _ _ _ _ _ ?_; rw [zax (by rw [zap]; omega),show (((f+w.length:Nat):Int) == ((tx l).size:Int))=true from by rw [beq_iff_eq,zap]; omega,zas]
   have:=cut [] w f acc hd (by simpa using hlen) ha (by
    refine zif _ _ _ _ _ ?_; rw [zaz (by rw [zap]; omega),zai rfl,if_pos rfl,List.append_nil]
    rfl)
   rw [this,List.append_nil,ziN c w hw]; simp
 | cons d r ih =>
   intro w f acc hd hlen hw ha; simp only [List.length_cons] at hlen; have hil:f+w.length < l.length:=by omega
   have hdl:l[f+w.length]=d:=by
    have h1:(l.drop f)[w.length]?=some d:=by rw [hd]; simp
    rw [List.getElem?_drop] at h1; exact (List.getElem?_eq_some_iff.1 h1).2
   have hst:=zfz hil; rw [hdl] at hst; refine zif _ _ _ _ _ ?_; rw [zax (by rw [zap]; omega),show (((f+w.length:Nat):Int) == ((tx l).size:Int))=false from by rw [beq_eq_false_iff_ne,zap]; omega,zam,cPQ,zai (by rw [zap]; omega),hst]; by_cases hc:d=c
   · subst hc; rw [show (((d.toNat:Nat):Int) == ((d.toNat:Nat):Int))=true from by rw [beq_iff_eq],zas]
     have hnext:=ih [] (f+w.length+1) (acc++[w]) (by
      rw [show f+w.length+1=f+(w.length+1) by omega,← List.drop_drop,hd]
      simp) (by simp; omega) (by simp) (by simp; omega)
     have:=cut (d :: r) w f acc hd (by simp; omega) ha (by simpa using hnext); rw [this,zhj d w r hw]; simp
   · rw [show (((d.toNat:Nat):Int) == ((c.toNat:Nat):Int))=false from by
      rw [beq_eq_false_iff_ne]; intro e
      exact hc (UInt8.toNat_inj.1 (by omega)),zam,w6Q]
     have hnext:=ih (w++[d]) f acc (by rw [hd]; simp) (by simp; omega) (by simp [hw]; exact fun e=>hc e.symm) ha; rw [List.length_append,List.length_singleton] at hnext; rw [show ((f+w.length:Nat):Int)+1=((f+(w.length+1):Nat):Int) by omega,hnext]; simp
theorem c_split (l:List UInt8) (c:UInt8) (hl:l.length < 4294967281):cw zhe [.v (.string (tx l)),.v (.int .u8 c.toNat)] []=some (zcS ((splitC c l).map tx)):=
 zsA (tx l) c.toNat (by simpa using ztE l c hl l [] 0 [] rfl (by simp) (by simp) (by simp))
theorem c_rlist (l:List UInt8) (hl:l.length < 4294967281):cw zkt [.v (.string (tx l))] []=some (zdp (listR l)):=by
 refine ztb (tx l) ?_; unfold listR readL; rw [show (zkY:ByteArray)=tx [45] from rfl,tx_beq]; by_cases h0:l=[45]
 · rw [decide_eq_true h0,zas,if_pos h0]; rfl
 rw [decide_eq_false h0,zam,if_neg h0,show (AV.v (.int .u8 44))=AV.v (.int .u8 ((44:UInt8).toNat:Nat)) from rfl,c_split l 44 hl,zdY]; have hsz:(splitC 44 l).length≤l.length+1:=zh8 44 l; have hmem:=zlq 44 l; generalize splitC 44 l=ws at hsz hmem
 have key:∀ acc:List Int,acc.length=0→0≤300→zfa (ws.map tx) (List.map zad acc) (0:Nat)=some (zdp (match numsS ws with | some n=>if 0+n.length≤300 then (acc++n,true) else ([],false) | none=>([],false))):=by
  refine zbR ws (fun i r=>∀ acc:List Int,acc.length=i→i≤300→zfa (ws.map tx) (List.map zad acc) (i:Nat)=some (zdp (match numsS r with | some n=>if i+n.length≤300 then (acc++n,true) else ([],false) | none=>([],false)))) ?_ ?_
  · intro acc ha hi; refine zlX _ _ _ ?_; rw [zaz (by rw [List.length_map,List.length_map]; omega),cPQ,List.take_length]; simp only [numsS,List.length_nil,List.append_nil]; rw [iPQ]; rfl
  · intro i x r hi hx hr ih acc ha hi3; refine zlX _ _ _ ?_; have hxi:(ws.map tx)[i]?=some (tx x):=by rw [List.getElem?_map,List.getElem?_eq_getElem hi,hx]; rfl
    have hxl:x.length < 4294967295:=by have:=hmem x (by rw [← hx]; exact List.getElem_mem hi); omega
    rw [zax (by rw [List.length_map,List.length_map]; omega),cPQ,zai (by rw [List.length_map,List.length_map]; omega),zdJ,show 0+((i:Nat):Int).toNat=i by omega,hxi,Option.bind_some,c_number hxl,zeh]; unfold numR
    cases hn:numS x with
    | none=>simp only [numsS,hn]; rw [Bool.not_false,zas]; rfl
    | some n =>
      simp only; rw [Bool.not_true,zam]; by_cases h3:i=300
      · rw [zax (by omega)]; simp only [numsS,hn]
        cases numsS r with
        | none=>rfl
        | some t=>simp only; rw [if_neg (by simp; omega)]; rfl
      · rw [zaz (by omega),zai trivial,zai (by rw [List.length_map]; omega),zai trivial,w6Q,show ((i:Nat):Int)+1=((i+1:Nat):Int) by omega]; have e:List.map zad acc++[zad n]=List.map zad (acc++[n]):=by simp
        rw [e,ih (acc++[n]) (by simp; omega) (by omega)]; simp only [numsS,hn]
        cases numsS r with
        | none=>rfl
        | some t =>
          simp only [List.length_cons,List.append_assoc,List.singleton_append]; by_cases hq:i+1+t.length≤300
          · rw [if_pos hq,iPQ]
          · rw [if_neg hq,iNQ]
 have hk:=key [] rfl (by decide); refine hk.trans ?_; have hnl:∀ n,numsS ws=some n→n.length=ws.length:=fun n=>zk5 ws n
 cases hn:numsS ws with
 | none =>
   simp only; by_cases hq:ws.length≤300
   · rw [if_pos hq]
   · rw [if_neg hq]
 | some n =>
   have:=hnl n hn; simp only [List.nil_append]; by_cases hq:ws.length≤300
   · rw [if_pos hq,iPQ]
   · rw [if_neg hq,iNQ]
end Go.Proofs.YtdclabgakicjeaaGreatDoor
namespace Go.Proofs.YtdclabgakicjeaaGreatDoor
open Go.Ab Go.Str
set_option maxRecDepth 100000
theorem zk2 (c:UInt8):∀ (a:List UInt8) (ws:List (List UInt8)),Lib.join (a :: ws) [c]=a++ws.flatMap fun w=>c :: w
 | a,[]=>by simp [Lib.join,List.intercalate]
 | a,b :: ws=>by
   have e:Lib.join (a :: b :: ws) [c]=a++c :: Lib.join (b :: ws) [c]:=by simp [Lib.join,List.intercalate,List.intersperse]
   rw [e,zk2 c b ws]; simp
theorem ziK:∀ (w:List UInt8) (ns:List Int),zbo w ns=w++(ns.map Lib.itoa).flatMap fun w=>32 :: w
 | w,[]=>by simp [zbo]
 | w,n :: ns=>by rw [znH,ziK]; simp
theorem flat_len (c:UInt8):∀ (ns:List Int),(∀ n∈ns,W64 n)→((ns.map Lib.itoa).flatMap fun w=>c :: w).length≤21*ns.length
 | [],_=>by simp
 | n :: ns,h=>by have h1:=zda (h n (by simp)); have h2:=flat_len c ns (fun m hm=>h m (by simp [hm])); simp only [List.map_cons,List.flatMap_cons,List.length_append,List.length_cons] at h2 ⊢; omega
theorem zsm {l:List Int} (h:∀ n∈l,W64 n):(wordL l).length≤21*l.length+1:=by
 unfold wordL; split
 · simp
 · cases l with
   | nil=>simp at *
   | cons n r=>have h1:=zda (h n (by simp)); have h2:=flat_len 44 r (fun m hm=>h m (by simp [hm])); rw [List.map_cons,zk2,List.length_append,List.length_cons]; omega
theorem ztD {l:List Int} (hl:l.length≤1000) (hw:∀ n∈l,W64 n):cw zhw [.sl 1 (List.map zad l)] []=some (zaA (tx (wordL l))):=by
 refine zp3 l ?_
 have key:∀ v:List UInt8,v.length≤1+21*0→zdm l (tx v) (0:Nat)=some (zaA (tx (if l=[] then v else if 0=0 then wordL l else v++(l.map Lib.itoa).flatMap fun w=>44 :: w))):=by
  refine zbR l (fun i r=>∀ v:List UInt8,v.length≤1+21*i→zdm l (tx v) (i:Nat)=some (zaA (tx (if r=[] then v else if i=0 then wordL r else v++(r.map Lib.itoa).flatMap fun w=>44 :: w)))) ?_ ?_
  · intro v hv; refine zjb l _ _ ?_; rw [zaz (by rw [List.length_map]; omega),if_pos rfl]; rfl
  · intro i x r hi hx hr ih v hv; have hxw:W64 x:=hw x (by rw [← hx]; exact List.getElem_mem hi); have hxl:=zda hxw; refine zjb l _ _ ?_; rw [zax (by rw [List.length_map]; omega),iNs]
    have body:∀ u:List UInt8,u.length≤2+21*i→(i=0→u=[])→zdv l (i:Nat) (tx u)=some (zaA (tx (u++Lib.itoa x++(r.map Lib.itoa).flatMap fun w=>44 :: w))):=fun u hu hu0=>by
     refine zlW l _ _ ?_; rw [cPQ,zcs,show ((i:Nat):Int).toNat=i from rfl,List.getElem?_eq_getElem hi,Option.bind_some,hx,znp hxw,zaw,zai (by rw [zap,zap]; omega),zaY,w6Q,show ((i:Nat):Int)+1=((i+1:Nat):Int) by omega]
     rw [ih (u++Lib.itoa x) (by
      rw [List.length_append]; by_cases h0:i=0
      · rw [hu0 h0]; simp; omega
      · omega)]
     by_cases hr0:r=[]
     · rw [if_pos hr0,hr0]; simp
     · rw [if_neg hr0,iNQ]
    by_cases h0:i=0
    · subst h0; rw [show ((((0:Nat)):Int) == 0)=true from rfl,zas,show (zil:ByteArray)=tx [] from rfl,if_pos rfl,body [] (by simp) (fun _=>rfl)]; unfold wordL; rw [iNs,List.map_cons,zk2]; rfl
    · rw [show (((i:Nat):Int) == 0)=false from by rw [beq_eq_false_iff_ne]; omega,zam,show (zfP:ByteArray)=tx [44] from rfl,zai (by rw [zap,zap]; simp; omega),zaY,if_neg h0,body (v++[44]) (by simp; omega) (fun q=>absurd q h0)]; simp
 have hk:=key [45] (by simp); refine hk.trans ?_; by_cases h:l=[]
 · rw [if_pos h,h]; rfl
 · rw [if_neg h,if_pos rfl]
theorem zn4 {key:List UInt8} {ns:List Int} {ls:List (List Int)} (hk:key.length≤100) (hn:ns.length≤100) (hns:∀ n∈ns,W64 n) (hl:ls.length≤10) (hls:∀ l∈ls,l.length≤1000∧∀ n∈l,W64 n):cw zbb [.v (.string (tx key)),.sl 1 (List.map zad ns),.sl 1 (List.map zaJ ls)] []=some (zaA (tx (zbo key ns++(ls.map wordL).flatMap fun w=>32 :: w))):=by
 refine zs9 (tx key) ns ls ?_
 have lists:∀ v:List UInt8,v.length≤3000+30000*0→ze9 ls (tx v) (0:Nat)=some (zaA (tx (v++(ls.map wordL).flatMap fun w=>32 :: w))):=by
  refine zbR ls (fun i r=>∀ v:List UInt8,v.length≤3000+30000*i→ze9 ls (tx v) (i:Nat)=some (zaA (tx (v++(r.map wordL).flatMap fun w=>32 :: w)))) ?_ ?_
  · intro v hv; refine zlV ls _ _ ?_; rw [zaz (by rw [List.length_map]; omega)]; simp; rfl
  · intro i x r hi hx hr ih v hv; have hxw:=hls x (by rw [← hx]; exact List.getElem_mem hi); have hxl:=zsm hxw.2; refine zlV ls _ _ ?_; rw [zax (by rw [List.length_map]; omega),cPQ,zjh,show ((i:Nat):Int).toNat=i from rfl,List.getElem?_eq_getElem hi,Option.bind_some,hx,ztD hxw.1 hxw.2,zaw,show (zch:ByteArray)=tx [32] from rfl,zai (by rw [zap,zap]; simp; omega),zaY,zai (by rw [zap,zap]; simp; omega),zaY,w6Q,show ((i:Nat):Int)+1=((i+1:Nat):Int) by omega]; rw [ih _ (by simp; omega)]; simp
 have nums:∀ v:List UInt8,v.length≤100+21*0→ze8 ns ls (tx v) (0:Nat)=some (zaA (tx (zbo v ns++(ls.map wordL).flatMap fun w=>32 :: w))):=by
  refine zbR ns (fun i r=>∀ v:List UInt8,v.length≤100+21*i→ze8 ns ls (tx v) (i:Nat)=some (zaA (tx (zbo v r++(ls.map wordL).flatMap fun w=>32 :: w)))) ?_ ?_
  · intro v hv; refine zlU ns ls _ _ ?_; rw [zaz (by rw [List.length_map]; omega)]; exact lists v (by omega)
  · intro i x r hi hx hr ih v hv; have hxw:W64 x:=hns x (by rw [← hx]; exact List.getElem_mem hi); have hxl:=zda hxw; refine zlU ns ls _ _ ?_; rw [zax (by rw [List.length_map]; omega),cPQ,zcs,show ((i:Nat):Int).toNat=i from rfl,List.getElem?_eq_getElem hi,Option.bind_some,hx,znp hxw,zaw,show (zch:ByteArray)=tx [32] from rfl,zai (by rw [zap,zap]; simp; omega),zaY,zai (by rw [zap,zap]; simp; omega),zaY,w6Q,show ((i:Nat):Int)+1=((i+1:Nat):Int) by omega]; rw [ih _ (by simp; omega)]; rfl
 exact nums key (by omega)
theorem ziJ (a b:List Int) (ha:a.length < 1000000000):cw zcT [.sl 1 (List.map zad a),.sl 1 (List.map zad b)] []=some (zaR (decide (a=b))):=by
 refine zoL a b ?_; by_cases hl:a.length=b.length
 · rw [show (((List.map zad a).length:Int) != ((List.map zad b).length:Int))=false from by rw [bne_eq_false_iff_eq,List.length_map,List.length_map,hl],zam]
   have key:∀ s:List Int,a.length - 0=s.length→b.drop 0=s→zc2 a b (0:Nat)=some (zaR (decide (a=s))):=by
    refine zbR a (fun i r=>∀ s:List Int,r.length=s.length→b.drop i=s→zc2 a b (i:Nat)=some (zaR (decide (r=s)))) ?_ ?_
    · intro s hs _; refine zir a b _ ?_; rw [zaz (by rw [List.length_map]; omega)]; have:s=[]:=List.eq_nil_of_length_eq_zero (by simpa using hs.symm); rw [this]; rfl
    · intro i x r hi hx hr ih s hs hb; have hib:i < b.length:=by omega
      refine zir a b _ ?_; rw [zax (by rw [List.length_map]; omega),cPQ,zcs,show ((i:Nat):Int).toNat=i from rfl,List.getElem?_eq_getElem hi,Option.bind_some,cPQ,zcs,List.getElem?_eq_getElem hib,Option.bind_some,hx]; rw [List.drop_eq_getElem_cons hib] at hb; subst hb; simp only [List.length_cons,Nat.add_right_cancel_iff] at hs; by_cases he:x=b[i]
      · rw [show (x != b[i])=false from by rw [bne_eq_false_iff_eq]; exact he,zam,w6Q,show ((i:Nat):Int)+1=((i+1:Nat):Int) by omega,ih _ hs rfl]; simp only [List.cons.injEq,he,true_and]
      · rw [show (x != b[i])=true from by rw [bne_iff_ne]; exact he,zas]; have:decide (x :: r=b[i] :: b.drop (i+1))=false:=by simp only [List.cons.injEq,he,false_and,decide_false]
        rw [this]; rfl
   exact key b (by omega) rfl
 · rw [show (((List.map zad a).length:Int) != ((List.map zad b).length:Int))=true from by rw [bne_iff_ne,List.length_map,List.length_map]; omega,zas]; have:decide (a=b)=false:=decide_eq_false (fun e=>hl (by rw [e])); rw [this]; rfl
end Go.Proofs.YtdclabgakicjeaaGreatDoor
namespace Go.Proofs.YtdclabgakicjeaaGreatDoor
open Go.Ab Go.Str
set_option maxRecDepth 100000
theorem zs1 (a b:zav) (h2:a.Pages.length < 1000000000) (h3:a.Answers.length < 1000000000):cw zgh [.agg (zat a),.agg (zat b)] []=some (zaR (decide (a=b))):=by refine zny a b ?_; rw [ziJ _ _ h2,ziJ _ _ h3]; simp only [zaO,zn0]; obtain ⟨s1,s2,s3,s4,s5,s6,s7⟩:=a; obtain ⟨s1',s2',s3',s4',s5',s6',s7'⟩:=b; refine congrArg (fun b=>some (B b,([]:Mem))) ?_; rw [Bool.eq_iff_iff]; simp only [Bool.and_eq_true,beq_iff_eq,decide_eq_true_eq,and_true,zav.mk.injEq]
theorem c_rSameM (a b:zaH) (h4:a.Pages.length < 1000000000):cw zkq [.agg (za3 a),.agg (za3 b)] []=some (zaR (decide (a=b))):=by refine zs6 a b ?_; rw [ziJ _ _ h4]; simp only [zaO,zn0]; obtain ⟨⟨v1,v2,v3⟩,v4,v5,v6,v7,v8,v9⟩:=a; obtain ⟨⟨v1',v2',v3'⟩,v4',v5',v6',v7',v8',v9'⟩:=b; refine congrArg (fun b=>some (B b,([]:Mem))) ?_; rw [Bool.eq_iff_iff]; simp only [Bool.and_eq_true,beq_iff_eq,decide_eq_true_eq,and_true,zaH.mk.injEq,zc1.mk.injEq]
theorem c_rSame (a b:GOp) (h1:a.Bounds.length < 1000000000) (h2:a.Script.Pages.length < 1000000000) (h3:a.Script.Answers.length < 1000000000) (h4:a.Event.Pages.length < 1000000000):cw zgi [.agg (nGOp a),.agg (nGOp b)] []=some (zaR (decide (a=b))):=by refine zs8 a b ?_; rw [ziJ _ _ h1,zs1 _ _ h2 h3,c_rSameM _ _ h4]; simp only [zaO,zaO,zaO,zn0]; obtain ⟨k,⟨e1,e2,e3⟩,sc,ev,⟨p1,p2⟩,⟨⟨a1,a2,a3⟩,a4,a5,a6⟩,bs,t,n⟩:=a; obtain ⟨k',⟨e1',e2',e3'⟩,sc',ev',⟨p1',p2'⟩,⟨⟨a1',a2',a3'⟩,a4',a5',a6'⟩,bs',t',n'⟩:=b; refine congrArg (fun b=>some (B b,([]:Mem))) ?_; rw [Bool.eq_iff_iff]; simp only [Bool.and_eq_true,beq_iff_eq,decide_eq_true_eq,and_true,GOp.mk.injEq,ze2.mk.injEq,zc1.mk.injEq,zc5.mk.injEq,zdM.mk.injEq]
def lineF (o:GOp):Nat:=
 if o.Kind=0 then 0 else if o.Kind=1 then 1 else if o.Kind=2 then (if o.Event.Kind=0 then 2 else if o.Event.Kind=1 then 3 else 4)
 else if o.Kind=3 then 5 else if o.Kind=4 then (if o.Appeal.Kind=0 then 6 else 7) else if o.Kind=5 then 8 else if o.Kind=6 then 9 else if o.Kind=7 then 10 else if o.Kind=8 then 11 else 12
def lineR (o:GOp):List UInt8:=if lineF o < 12 then lineS (lineF o) o else []
theorem lineS_eq (W:Nat) (o:GOp) (ns:List Int) (ls:List (List Int)) (h:(slotsC W).map (wordC o)=ns.map Lib.itoa++ls.map wordL):lineS W o=zbo (kw W) ns++(ls.map wordL).flatMap fun w=>32 :: w:=by unfold lineS; rw [zk2,ziK,h,List.flatMap_append,List.append_assoc]
theorem kwlen (W:Nat):(kw W).length≤9:=by
 rcases Nat.lt_or_ge W 12 with h | h
 · rcases lt12' h with rfl | rfl | rfl | rfl | rfl | rfl | rfl | rfl | rfl | rfl | rfl | rfl <;> decide
 · unfold kw; rw [List.getElem?_eq_none (by simpa [formsT] using h)]; simp
theorem zeb {o:GOp} (ho:OpW o) (W:Nat) (hW:W < 12) (hF:lineF o=W) (ns:List Int) (ls:List (List Int)) (h:(slotsC W).map (wordC o)=ns.map Lib.itoa++ls.map wordL) (hn:ns.length≤100) (hns:∀ n∈ns,W64 n) (hl:ls.length≤10) (hls:∀ l∈ls,l.length≤1000∧∀ n∈l,W64 n):(callD zal (cw zbb [.v (.string (tx (kw W))),.sl 1 (List.map zad ns),.sl 1 (List.map zaJ ls)] []) fun (r:ByteArray)=>some (AV.v (.string r),([]:Mem)))=some (zaA (tx (lineR o))):=by have hk:=kwlen W; rw [zn4 (by omega) hn hns hl hls,zaw]; unfold lineR; rw [hF,if_pos hW,lineS_eq W o ns ls h]; rfl
theorem c_line18 {o:GOp} (ho:OpW o) (k0:o.Kind≠0) (k1:o.Kind≠1) (k2:o.Kind≠2) (k3:o.Kind≠3) (k4:o.Kind=4→o.Appeal.Kind≠0):zeV o=some (zaA (tx (lineR o))):=by
 refine zoP o ?_; have hN:=ho.num; have hL:=ho.list; by_cases h4:o.Kind=4
 · rw [show (o.Kind == 4)=true from beq_iff_eq.2 h4,zas,zai rfl,zai (by decide),zai (by decide)]; refine zeb ho 7 (by decide) (by unfold lineF; rw [if_neg k0,if_neg k1,if_neg k2,if_neg k3,if_pos h4,if_neg (k4 h4)]) _ _ rfl (by simp) (fun n hn=>?_) (by simp) (by simp); simp only [List.mem_cons,List.mem_nil_iff,or_false] at hn; rcases hn with rfl | rfl | rfl | rfl
   all_goals first | exact hN 22 | exact hN 23 | exact hN 24 | exact hN 27
 rw [show (o.Kind == 4)=false from beq_eq_false_iff_ne.2 h4,zam]; by_cases h5:o.Kind=5
 · rw [show (o.Kind == 5)=true from beq_iff_eq.2 h5,zas]; refine zeb ho 8 (by decide) (by unfold lineF; rw [if_neg k0,if_neg k1,if_neg k2,if_neg k3,if_neg h4,if_pos h5]) _ _ rfl (by simp) (fun n hn=>?_) (by simp) (fun l hl=>?_)
   · simp only [List.mem_cons,List.mem_nil_iff,or_false] at hn; subst hn; exact hN 29
   · simp only [List.mem_cons,List.mem_nil_iff,or_false] at hl; subst hl; exact hL 28
 rw [show (o.Kind == 5)=false from beq_eq_false_iff_ne.2 h5,zam]; by_cases h6:o.Kind=6
 · rw [show (o.Kind == 6)=true from beq_iff_eq.2 h6,zas]; refine zeb ho 9 (by decide) (by unfold lineF; rw [if_neg k0,if_neg k1,if_neg k2,if_neg k3,if_neg h4,if_neg h5,if_pos h6]) _ _ rfl (by simp) (fun n hn=>?_) (by simp) (by simp); simp only [List.mem_cons,List.mem_nil_iff,or_false] at hn; subst hn; exact hN 29
 rw [show (o.Kind == 6)=false from beq_eq_false_iff_ne.2 h6,zam]; by_cases h7:o.Kind=7
 · rw [show (o.Kind == 7)=true from beq_iff_eq.2 h7,zas]; refine zeb ho 10 (by decide) (by unfold lineF; rw [if_neg k0,if_neg k1,if_neg k2,if_neg k3,if_neg h4,if_neg h5,if_neg h6,if_pos h7]) _ _ rfl (by simp) (fun n hn=>?_) (by simp) (by simp); simp only [List.mem_cons,List.mem_nil_iff,or_false] at hn; subst hn; exact hN 29
 rw [show (o.Kind == 7)=false from beq_eq_false_iff_ne.2 h7,zam]; by_cases h8:o.Kind=8
 · rw [show (o.Kind == 8)=true from beq_iff_eq.2 h8,zas]; refine zeb ho 11 (by decide) (by unfold lineF; rw [if_neg k0,if_neg k1,if_neg k2,if_neg k3,if_neg h4,if_neg h5,if_neg h6,if_neg h7,if_pos h8]) _ _ rfl (by simp) (fun n hn=>?_) (by simp) (by simp); simp only [List.mem_cons,List.mem_nil_iff,or_false] at hn; rcases hn with rfl | rfl
   all_goals first | exact hN 29 | exact hN 30
 rw [show (o.Kind == 8)=false from beq_eq_false_iff_ne.2 h8,zam]; unfold lineR lineF; rw [if_neg k0,if_neg k1,if_neg k2,if_neg k3,if_neg h4,if_neg h5,if_neg h6,if_neg h7,if_neg h8,if_neg (by decide)]; rfl
theorem c_line12 {o:GOp} (ho:OpW o) (k0:o.Kind≠0) (k1:o.Kind≠1) (k2:o.Kind=2→o.Event.Kind≠0∧o.Event.Kind≠1):zeU o=some (zaA (tx (lineR o))):=by
 refine zoO o ?_; have hN:=ho.num; by_cases h2:o.Kind=2
 · rw [show (o.Kind == 2)=true from beq_iff_eq.2 h2,zas,zai rfl,zai (by decide),zai (by decide)]; refine zeb ho 4 (by decide) (by unfold lineF; rw [if_neg k0,if_neg k1,if_pos h2,if_neg (k2 h2).1,if_neg (k2 h2).2]) _ _ rfl (by simp) (fun n hn=>?_) (by simp) (by simp); simp only [List.mem_cons,List.mem_nil_iff,or_false] at hn; rcases hn with rfl | rfl | rfl | rfl | rfl
   all_goals first | exact hN 11 | exact hN 12 | exact hN 13 | exact hN 15 | exact hN 16
 rw [show (o.Kind == 2)=false from beq_eq_false_iff_ne.2 h2,zam]; by_cases h3:o.Kind=3
 · rw [show (o.Kind == 3)=true from beq_iff_eq.2 h3,zas]; refine zeb ho 5 (by decide) (by unfold lineF; rw [if_neg k0,if_neg k1,if_neg h2,if_pos h3]) _ _ rfl (by simp) (fun n hn=>?_) (by simp) (by simp); simp only [List.mem_cons,List.mem_nil_iff,or_false] at hn; rcases hn with rfl | rfl
   all_goals first | exact hN 20 | exact hN 21
 rw [show (o.Kind == 3)=false from beq_eq_false_iff_ne.2 h3,zam]; by_cases h4:o.Kind=4
 · rw [show (o.Kind == 4)=true from beq_iff_eq.2 h4,zas]; by_cases ha:o.Appeal.Kind=0
   · rw [show (o.Appeal.Kind == 0)=true from beq_iff_eq.2 ha,zas,zai rfl,zai (by decide),zai (by decide)]; refine zeb ho 6 (by decide) (by unfold lineF; rw [if_neg k0,if_neg k1,if_neg h2,if_neg h3,if_pos h4,if_pos ha]) _ _ rfl (by simp) (fun n hn=>?_) (by simp) (by simp); simp only [List.mem_cons,List.mem_nil_iff,or_false] at hn; rcases hn with rfl | rfl | rfl | rfl
     all_goals first | exact hN 22 | exact hN 23 | exact hN 24 | exact hN 26
   · rw [show (o.Appeal.Kind == 0)=false from beq_eq_false_iff_ne.2 ha,zam]; exact c_line18 ho k0 k1 h2 h3 (fun _=>ha)
 rw [show (o.Kind == 4)=false from beq_eq_false_iff_ne.2 h4,zam]; exact c_line18 ho k0 k1 h2 h3 (fun q=>absurd q h4)
theorem c_line10 {o:GOp} (ho:OpW o) (k0:o.Kind≠0) (k1:o.Kind≠1) (k2:o.Kind=2→o.Event.Kind≠0):zeT o=some (zaA (tx (lineR o))):=by
 refine zoN o ?_; have hN:=ho.num; by_cases h2:o.Kind=2
 · rw [show (o.Kind == 2)=true from beq_iff_eq.2 h2,zas]; by_cases he:o.Event.Kind=1
   · rw [show (o.Event.Kind == 1)=true from beq_iff_eq.2 he,zas,zai rfl,zai (by decide),zai (by decide)]; refine zeb ho 3 (by decide) (by unfold lineF; rw [if_neg k0,if_neg k1,if_pos h2,if_neg (k2 h2),if_pos he]) _ _ rfl (by simp) (fun n hn=>?_) (by simp) (by simp); simp only [List.mem_cons,List.mem_nil_iff,or_false] at hn; rcases hn with rfl | rfl | rfl | rfl
     all_goals first | exact hN 11 | exact hN 12 | exact hN 13 | exact hN 18
   · rw [show (o.Event.Kind == 1)=false from beq_eq_false_iff_ne.2 he,zam]; exact c_line12 ho k0 k1 (fun q=>⟨k2 q,he⟩)
 rw [show (o.Kind == 2)=false from beq_eq_false_iff_ne.2 h2,zam]; exact c_line12 ho k0 k1 (fun q=>absurd q h2)
theorem c_line {o:GOp} (ho:OpW o):cw zks [.agg (nGOp o)] []=some (zaA (tx (lineR o))):=by
 refine zta o ?_; have hN:=ho.num; have hL:=ho.list; by_cases k0:o.Kind=0
 · rw [show (o.Kind == 0)=true from beq_iff_eq.2 k0,zas]; refine zeb ho 0 (by decide) (by unfold lineF; rw [if_pos k0]) _ _ rfl (by simp) (fun n hn=>?_) (by simp) (by simp); simp only [List.mem_cons,List.mem_nil_iff,or_false] at hn; rcases hn with rfl | rfl | rfl
   all_goals first | exact hN 1 | exact hN 2 | exact hN 3
 rw [show (o.Kind == 0)=false from beq_eq_false_iff_ne.2 k0,zam]; by_cases k1:o.Kind=1
 · rw [show (o.Kind == 1)=true from beq_iff_eq.2 k1,zas]; refine zeb ho 1 (by decide) (by unfold lineF; rw [if_neg k0,if_pos k1]) _ _ rfl (by simp) (fun n hn=>?_) (by simp) (fun l hl=>?_)
   · simp only [List.mem_cons,List.mem_nil_iff,or_false] at hn; rcases hn with rfl | rfl | rfl | rfl | rfl
     all_goals first | exact hN 4 | exact hN 5 | exact hN 6 | exact hN 7 | exact hN 8
   · simp only [List.mem_cons,List.mem_nil_iff,or_false] at hl; rcases hl with rfl | rfl
     all_goals first | exact hL 9 | exact hL 10
 rw [show (o.Kind == 1)=false from beq_eq_false_iff_ne.2 k1,zam]; by_cases h2:o.Kind=2
 · rw [show (o.Kind == 2)=true from beq_iff_eq.2 h2,zas]; by_cases he:o.Event.Kind=0
   · rw [show (o.Event.Kind == 0)=true from beq_iff_eq.2 he,zas,zai rfl,zai (by decide),zai (by decide)]; refine zeb ho 2 (by decide) (by unfold lineF; rw [if_neg k0,if_neg k1,if_pos h2,if_pos he]) _ _ rfl (by simp) (fun n hn=>?_) (by simp) (fun l hl=>?_)
     · simp only [List.mem_cons,List.mem_nil_iff,or_false] at hn; rcases hn with rfl | rfl | rfl | rfl | rfl | rfl
       all_goals first | exact hN 11 | exact hN 12 | exact hN 13 | exact hN 15 | exact hN 16 | exact hN 17
     · simp only [List.mem_cons,List.mem_nil_iff,or_false] at hl; subst hl; exact hL 19
   · rw [show (o.Event.Kind == 0)=false from beq_eq_false_iff_ne.2 he,zam]; exact c_line10 ho k0 k1 (fun _=>he)
 rw [show (o.Kind == 2)=false from beq_eq_false_iff_ne.2 h2,zam]; exact c_line10 ho k0 k1 (fun q=>absurd q h2)
end Go.Proofs.YtdclabgakicjeaaGreatDoor
namespace Go.Proofs.YtdclabgakicjeaaGreatDoor
open Go.Ab Go.Str
set_option maxRecDepth 100000
def rd:List (Bool×Nat)→List (List UInt8)→Option (List Int×List (List Int))
 | [],_=>some ([],[])
 | p :: ps,w :: ws=>if p.1 then (match readL w,rd ps ws with
     | some l,some r=>some (r.1,l :: r.2)
     | _,_=>none)
   else (match numS w,rd ps ws with
    | some n,some r=>some (n :: r.1,r.2)
    | _,_=>none)
 | _,_=>none
def fill:List (Bool×Nat)→List Int→List (List Int)→GOp→GOp
 | [],_,_,c=>c
 | (false,o) :: ps,n :: ns,ls,c=>fill ps ns ls (putN n o c)
 | (true,o) :: ps,ns,l :: ls,c=>fill ps ns ls (putL l o c)
 | _,_,_,c=>c
theorem zmv:∀ (ps:List (Bool×Nat)) (ws:List (List UInt8)) (c:GOp),zbH ps ws c=(rd ps ws).map fun r=>fill ps r.1 r.2 c
 | [],ws,c=>by cases ws <;> rfl
 | p :: ps,[],c=>rfl
 | (false,o) :: ps,w :: ws,c=>by
   unfold zbH rd; simp only [read1,Bool.false_eq_true,if_false]
   cases numS w with
   | none=>rfl
   | some n =>
     simp only [Option.map_some]; rw [zmv ps ws]
     cases rd ps ws with
     | none=>rfl
     | some r=>rfl
 | (true,o) :: ps,w :: ws,c=>by
   unfold zbH rd; simp only [read1,if_true]
   cases readL w with
   | none=>rfl
   | some n =>
     simp only [Option.map_some]; rw [zmv ps ws]
     cases rd ps ws with
     | none=>rfl
     | some r=>rfl
theorem rd_len:∀ (ps:List (Bool×Nat)) (ws:List (List UInt8)) (r:List Int×List (List Int)),rd ps ws=some r→r.1.length=(ps.filter fun p=>!p.1).length∧r.2.length=(ps.filter fun p=>p.1).length
 | [],ws,r,h=>by cases ws <;> (injection h with h; subst h; exact ⟨rfl,rfl⟩)
 | p :: ps,[],r,h=>by cases h
 | (false,o) :: ps,w :: ws,r,h=>by
   unfold rd at h; simp only [Bool.false_eq_true,if_false] at h
   cases hn:numS w with
   | none=>rw [hn] at h; cases h
   | some n =>
     cases hr:rd ps ws with
     | none=>rw [hn,hr] at h; cases h
     | some q=>rw [hn,hr] at h; injection h with h; subst h; have:=rd_len ps ws q hr; simp [this.1,this.2]
 | (true,o) :: ps,w :: ws,r,h=>by
   unfold rd at h; simp only [if_true] at h
   cases hn:readL w with
   | none=>rw [hn] at h; cases h
   | some n =>
     cases hr:rd ps ws with
     | none=>rw [hn,hr] at h; cases h
     | some q=>rw [hn,hr] at h; injection h with h; subst h; have:=rd_len ps ws q hr; simp [this.1,this.2]
def pat (W:Nat):List UInt8:=(slotsC W).map fun p=>if p.1 then 108 else 110
def formsR:List (ByteArray×ByteArray):=(List.range 12).map fun W=>(tx (kw W),tx (pat W))
theorem c_forms:cw zjj [] []=some (zjn formsR):=zsz (by kernel_rfl)
theorem l1 {α:Type} {l:List α} (h:l.length=1):∃ a,l=[a]:=by match l,h with | [a],_=>exact ⟨a,rfl⟩
theorem l2 {α:Type} {l:List α} (h:l.length=2):∃ a b,l=[a,b]:=by match l,h with | [a,b],_=>exact ⟨a,b,rfl⟩
theorem l3 {α:Type} {l:List α} (h:l.length=3):∃ a b c,l=[a,b,c]:=by match l,h with | [a,b,c],_=>exact ⟨a,b,c,rfl⟩
theorem l4 {α:Type} {l:List α} (h:l.length=4):∃ a b c d,l=[a,b,c,d]:=by match l,h with | [a,b,c,d],_=>exact ⟨a,b,c,d,rfl⟩
theorem l5 {α:Type} {l:List α} (h:l.length=5):∃ a b c d e,l=[a,b,c,d,e]:=by match l,h with | [a,b,c,d,e],_=>exact ⟨a,b,c,d,e,rfl⟩
theorem l6 {α:Type} {l:List α} (h:l.length=6):∃ a b c d e f,l=[a,b,c,d,e,f]:=by match l,h with | [a,b,c,d,e,f],_=>exact ⟨a,b,c,d,e,f,rfl⟩
theorem kw_ne:∀ V < 12,∀ W < 12,V≠W→kw V≠kw W:=by decide
theorem zfb {W:Nat} (hW:W < 12) (V:Nat) (hV:V < 12) (t e:Option (AV×Mem)):brn (tx (kw W) == tx (kw V)) t e=if W=V then t else e:=by
 rw [tx_beq]; by_cases h:W=V
 · subst h; rw [decide_eq_true rfl,zas,if_pos rfl]
 · rw [decide_eq_false (kw_ne W hW V hV h),zam,if_neg h]
theorem c_build {W:Nat} (hW:W < 12) (ns:List Int) (ls:List (List Int)) (h1:ns.length=((slotsC W).filter fun p=>!p.1).length) (h2:ls.length=((slotsC W).filter fun p=>p.1).length):cw zji [.v (.string (tx (kw W))),.sl 1 (List.map zad ns),.sl 1 (List.map zaJ ls)] []=some (zfY (fill (slotsC W) ns ls (blankS W))):=by
 refine zsy _ ns ls ?_; rw [show (zkb:ByteArray)=tx (kw 0) from rfl,show (zkc:ByteArray)=tx (kw 1) from rfl,show (zkd:ByteArray)=tx (kw 5) from rfl,show (zke:ByteArray)=tx (kw 8) from rfl,show (zkf:ByteArray)=tx (kw 9) from rfl,show (zkg:ByteArray)=tx (kw 10) from rfl,show (zkh:ByteArray)=tx (kw 11) from rfl,show (zki:ByteArray)=tx (kw 2) from rfl,show (zkj:ByteArray)=tx (kw 3) from rfl,show (zkk:ByteArray)=tx (kw 4) from rfl,show (zjA:ByteArray)=tx (kw 6) from rfl]; simp only [zfb hW 0 (by decide),zfb hW 1 (by decide),zfb hW 5 (by decide),zfb hW 8 (by decide),zfb hW 9 (by decide),zfb hW 10 (by decide),zfb hW 11 (by decide),zfb hW 2 (by decide),zfb hW 3 (by decide),zfb hW 4 (by decide),zfb hW 6 (by decide),zcs,zjh,zai (show (0:Int)≤0 by decide),zai (show (0:Int)≤1 by decide),zai (show (0:Int)≤2 by decide),zai (show (0:Int)≤3 by decide),zai (show (0:Int)≤4 by decide),zai (show (0:Int)≤5 by decide)]; rcases lt12' hW with rfl | rfl | rfl | rfl | rfl | rfl | rfl | rfl | rfl | rfl | rfl | rfl
 all_goals simp only [slotsC,List.filter_cons,List.filter_nil,Bool.not_false,Bool.not_true,Bool.false_eq_true,if_true,if_false,List.length_cons,List.length_nil,Nat.zero_add,Nat.reduceAdd] at h1 h2
 · obtain ⟨a,b,c,rfl⟩:=l3 h1; rfl
 · obtain ⟨a,b,c,d,e,rfl⟩:=l5 h1; obtain ⟨x,y,rfl⟩:=l2 h2; rfl
 · obtain ⟨a,b,c,d,e,f,rfl⟩:=l6 h1; obtain ⟨x,rfl⟩:=l1 h2; rfl
 · obtain ⟨a,b,c,d,rfl⟩:=l4 h1; rfl
 · obtain ⟨a,b,c,d,e,rfl⟩:=l5 h1; rfl
 · obtain ⟨a,b,rfl⟩:=l2 h1; rfl
 · obtain ⟨a,b,c,d,rfl⟩:=l4 h1; rfl
 · obtain ⟨a,b,c,d,rfl⟩:=l4 h1; rfl
 · obtain ⟨a,rfl⟩:=l1 h1; obtain ⟨x,rfl⟩:=l1 h2; rfl
 · obtain ⟨a,rfl⟩:=l1 h1; rfl
 · obtain ⟨a,rfl⟩:=l1 h1; rfl
 · obtain ⟨a,b,rfl⟩:=l2 h1; rfl
theorem zh0 {k:Nat} (h:k < 12):formsR[k]?=some (tx (kw k),tx (pat k)):=by unfold formsR; rw [List.getElem?_map,List.getElem?_range h]; rfl
theorem zj1 (W:Nat):(pat W).length=(slotsC W).length:=by unfold pat; rw [List.length_map]
theorem slots7 (W:Nat):(slotsC W).length≤7:=by unfold slotsC; split <;> decide
theorem pat_at {W j:Nat} {p:Bool×Nat} (h:(slotsC W)[j]?=some p):strAt (tx (pat W)) (j:Nat)=if p.1 then 108 else 110:=by
 have hj:j < (slotsC W).length:=(List.getElem?_eq_some_iff.1 h).1; have hp:(slotsC W)[j]=p:=(List.getElem?_eq_some_iff.1 h).2; rw [zfz (by rw [zj1]; exact hj)]; unfold pat
 rw [List.getElem_map,hp]; split <;> rfl
theorem c_rPar2 (hd:List UInt8) (tl:List (List UInt8)) (W:Nat) (hW:W < 12) (hk:hd=kw W) (hlen:tl.length=(slotsC W).length) (hsm:∀ l∈tl,l.length < 4294967281):∀ (ps:List (Bool×Nat)) (j:Nat) (ns:List Int) (ls:List (List Int)),(slotsC W).drop j=ps→j+ps.length=(slotsC W).length→ns.length+ls.length≤j→(∀ r,rd ps (tl.drop j)=some r→(ns++r.1).length=((slotsC W).filter fun p=>!p.1).length∧(ls++r.2).length=((slotsC W).filter fun p=>p.1).length)→zeu ((hd :: tl).map tx) formsR (W:Nat) (List.map zad ns) (List.map zaJ ls) (j:Nat)=some (zcQ (match rd ps (tl.drop j) with | some r=>(fill (slotsC W) (ns++r.1) (ls++r.2) (blankS W),0) | none=>(zOp,7)))
 | [],j,ns,ls,hps,hj,hnl,hr=>by
   have h7:=slots7 W; simp only [List.length_nil] at hj; have hfl:(List.map zdy formsR).length=12:=rfl; refine zk9 _ _ _ _ _ _ ?_; have hq:=hr ([],[]) (by unfold rd; cases tl.drop j <;> rfl); have he:rd [] (tl.drop j)=some ([],[]):=by unfold rd; cases tl.drop j <;> rfl
   rw [cPQ,zgb,show ((W:Nat):Int).toNat=W from rfl,zh0 hW,Option.bind_some,zaz (by rw [zap,zj1]; omega),zai (by decide),zai (by simp only [List.length_map,List.length_cons]; omega),zdJ,show 0+Int.toNat 0=0 from rfl,List.map_cons,List.getElem?_cons_zero,Option.bind_some,cPQ,cPQ,List.take_length,List.take_length,hk]; simp only [List.append_nil] at hq; rw [c_build hW ns ls hq.1 hq.2,zdX,cPQ,cPQ,cPQ,cPQ,he]; simp only [List.append_nil]; rfl
 | p :: ps,j,ns,ls,hps,hj,hnl,hr=>by
   have h7:=slots7 W; simp only [List.length_cons] at hj; have hfl:(List.map zdy formsR).length=12:=rfl; have hjl:j < (slotsC W).length:=by omega
   have hp:(slotsC W)[j]?=some p∧(slotsC W).drop (j+1)=ps:=by rw [List.drop_eq_getElem_cons hjl] at hps; injection hps with h1 h2; exact ⟨by rw [List.getElem?_eq_getElem hjl,h1],h2⟩
   have hjt:j < tl.length:=by omega
   have hwl:=hsm _ (List.getElem_mem hjt); have hdrop:tl.drop j=tl[j] :: tl.drop (j+1):=List.drop_eq_getElem_cons hjt
   have hget:((hd :: tl).map tx)[0+(w64 ((j:Nat)+1:Int)).toNat]?=some (tx tl[j]):=by rw [w6Q,show 0+((j:Nat)+1:Int).toNat=j+1 by omega,List.map_cons,List.getElem?_cons_succ,List.getElem?_map,List.getElem?_eq_getElem hjt]; rfl
   have hw0:(0:Int)≤w64 ((j:Nat)+1:Int):=by rw [w6Q]; omega
   have hw1:w64 ((j:Nat)+1:Int) < ((List.map nStr ((hd :: tl).map tx)).length:Int):=by rw [w6Q]; simp; omega
   refine zk9 _ _ _ _ _ _ ?_; rw [cPQ,zgb,show ((W:Nat):Int).toNat=W from rfl,zh0 hW,Option.bind_some,zax (by rw [zap,zj1]; omega),cPQ,zgb,zh0 hW,Option.bind_some,cPQ,zai (by rw [zap,zj1]; omega),pat_at hp.1]; obtain ⟨pl,off⟩:=p; rw [hdrop] at hr ⊢; have next:=fun ns' ls' h1 h2=>c_rPar2 hd tl W hW hk hlen hsm ps (j+1) ns' ls' hp.2 (by omega) h1 h2
   cases pl with
   | false =>
     simp only [Bool.false_eq_true,if_false]; rw [show ((110:Int) == 110)=true from rfl,zas,zai hw0,zai hw1,zdJ,hget,Option.bind_some,c_number (by omega),zeh]; unfold rd at hr ⊢; simp only [Bool.false_eq_true,if_false] at hr ⊢; unfold numR
     cases hn:numS tl[j] with
     | none=>simp only; rw [Bool.not_false,zas]; rfl
     | some n =>
       rw [hn] at hr; simp only; rw [Bool.not_true,zam,zai trivial,zai (by rw [List.length_map]; omega),zai trivial,show List.map zad ns++[zad n]=List.map zad (ns++[n]) by simp,w6Q,show ((j:Nat):Int)+1=((j+1:Nat):Int) by omega]
       rw [next (ns++[n]) ls (by simp; omega) (fun r hq=>by
        have:=hr (n :: r.1,r.2) (by rw [hq])
        simpa using this)]
       cases rd ps (tl.drop (j+1)) with
       | none=>rfl
       | some r=>simp
   | true =>
     simp only [if_true]; rw [show ((108:Int) == 110)=false from rfl,zam,zai hw0,zai hw1,zdJ,hget,Option.bind_some,c_rlist _ hwl,zkn]; unfold rd at hr ⊢; simp only [if_true] at hr ⊢; unfold listR
     cases hn:readL tl[j] with
     | none=>simp only; rw [Bool.not_false,zas]; rfl
     | some n =>
       rw [hn] at hr; simp only; rw [Bool.not_true,zam,zai trivial,zai (by rw [List.length_map]; omega),zai trivial,show List.map zaJ ls++[zaJ n]=List.map zaJ (ls++[n]) by simp,w6Q,show ((j:Nat):Int)+1=((j+1:Nat):Int) by omega]
       rw [next ns (ls++[n]) (by simp; omega) (fun r hq=>by
        have:=hr (r.1,n :: r.2) (by rw [hq])
        simpa using this)]
       cases rd ps (tl.drop (j+1)) with
       | none=>rfl
       | some r=>simp
end Go.Proofs.YtdclabgakicjeaaGreatDoor
namespace Go.Proofs.YtdclabgakicjeaaGreatDoor
open Go.Ab Go.Str
set_option maxRecDepth 100000
theorem form_at {i:Nat} {hd:List UInt8} (hi:i < 12) (h:kw i=hd):zbn hd=i:=by
 unfold zbn
 have:(List.range 12).find? (fun w=>kw w == hd)=some i:=by rw [List.find?_range_eq_some]; refine ⟨by simp [h],List.mem_range.2 hi,fun j hj=>?_⟩; have:=kw_ne j (by omega) i hi (by omega); rw [h] at this; simp [this]
 rw [this]; rfl
theorem form_kw {hd:List UInt8} (h:zbn hd < 12):kw (zbn hd)=hd:=by
 unfold zbn at h ⊢
 cases hf:(List.range 12).find? (fun w=>kw w == hd) with
 | none=>rw [hf] at h; simp at h
 | some w=>have:=List.find?_some hf; simpa using this
theorem c_rPar1 (hd:List UInt8) (tl:List (List UInt8)) (hsm:∀ l∈tl,l.length < 4294967281) (htl:tl.length < 4294967296):∀ (n i:Nat),i+n=12→(∀ j < i,¬ (kw j=hd∧tl.length=(slotsC j).length))→zdu ((hd :: tl).map tx) formsR (i:Nat)=some (zcQ (match (if zbn hd < 12∧tl.length=(slotsC (zbn hd)).length then zbH (slotsC (zbn hd)) tl (blankS (zbn hd)) else none) with | some o=>(o,0) | none=>(zOp,7))):=by
 intro n; have hfl:(List.map zdy formsR).length=12:=rfl
 induction n with
 | zero=>intro i hi hno; refine zk8 _ _ _ ?_; rw [zaz (by rw [hfl]; omega),if_neg (fun q=>hno _ (by omega) ⟨form_kw q.1,q.2⟩)]; rfl
 | succ n ih =>
   intro i hi hno; have hil:i < 12:=by omega
   have h7:=slots7 i; refine zk8 _ _ _ ?_
   have next:¬ (kw i=hd∧tl.length=(slotsC i).length)→zdu ((hd :: tl).map tx) formsR (w64 ((i:Nat)+1:Int))=some (zcQ (match (if zbn hd < 12∧tl.length=(slotsC (zbn hd)).length then zbH (slotsC (zbn hd)) tl (blankS (zbn hd)) else none) with | some o=>(o,0) | none=>(zOp,7))):=fun h=>by
    rw [w6Q,show ((i:Nat):Int)+1=((i+1:Nat):Int) by omega]
    exact ih (i+1) (by omega) (fun j hj=>by
     rcases Nat.lt_succ_iff_lt_or_eq.1 hj with q | q
     · exact hno j q
     · rw [q]; exact h)
   rw [zax (by rw [hfl]; omega),cPQ,zgb,show ((i:Nat):Int).toNat=i from rfl,zh0 hil,Option.bind_some,zai (by decide),zai (by simp only [List.length_map,List.length_cons]; omega),zdJ,show 0+Int.toNat 0=0 from rfl,List.map_cons,List.getElem?_cons_zero,Option.bind_some,tx_beq]; by_cases hk:kw i=hd
   rotate_left
   · rw [decide_eq_false hk,Bool.not_false,zas]; exact next (fun q=>hk q.1)
   rw [decide_eq_true hk,Bool.not_true,zam,cPQ,zgb,zh0 hil,Option.bind_some]; by_cases hl:tl.length=(slotsC i).length
   rotate_left
   · rw [show (((List.map nStr (tx hd :: List.map tx tl)).length:Int) != w64 (((tx (pat i)).size:Int)+1))=true from by rw [bne_iff_ne,zap,zj1,w6Q]; simp only [List.length_map,List.length_cons]; omega,zas]
     exact next (fun q=>hl q.2)
   rw [show (((List.map nStr (tx hd :: List.map tx tl)).length:Int) != w64 (((tx (pat i)).size:Int)+1))=false from by rw [bne_eq_false_iff_eq,zap,zj1,w6Q]; simp only [List.length_map,List.length_cons]; omega,zam]
   have h2:=c_rPar2 hd tl i hil hk.symm hl hsm (slotsC i) 0 [] [] rfl (by omega) (by simp) (fun r hr=>by
    have:=rd_len _ _ r hr
    simpa using this)
   refine Eq.trans h2 ?_; rw [form_at hil hk,if_pos ⟨hil,hl⟩,zmv,List.drop_zero]
   cases rd (slotsC i) tl with
   | none=>rfl
   | some r=>rfl
theorem zpS {l:List UInt8} (hl:l.length < 4294967281):cw zfE [.v (.string (tx l))] []=some (zcQ (parR l)):=by
 refine zsx (tx l) ?_; rw [show (AV.v (.int .u8 32))=AV.v (.int .u8 ((32:UInt8).toNat:Nat)) from rfl,c_split l 32 hl,zdY,c_forms,zoC]; have hsum:∀ x∈splitC 32 l,x.length < 4294967281:=fun x hx=>Nat.lt_of_le_of_lt (zlq 32 l x hx) hl
 have hslen:=zh8 32 l; have hpar:parS l=(match splitC 32 l with | []=>none | k :: ws=>if zbn k < 12∧ws.length=(slotsC (zbn k)).length then zbH (slotsC (zbn k)) ws (blankS (zbn k)) else none):=rfl; have hne:=zgq 32 l; generalize splitC 32 l=wl at hsum hslen hpar hne
 cases wl with
 | nil=>exact absurd rfl hne
 | cons hd tl=>simp only at hpar; simp only [List.length_cons] at hslen; have:=c_rPar1 hd tl (fun x hx=>hsum x (by simp [hx])) (by omega) 12 0 rfl (fun j hj=>absurd hj (Nat.not_lt_zero j)); refine Eq.trans this ?_; rw [← hpar]; unfold parR; cases parS l <;> rfl
theorem okW_read {o c:GOp} {p:Bool×Nat}:read1 c p (wordC o p)=if okW o p then some (copy1 o c p) else none:=by
 unfold read1 wordC okW copy1; split
 · rename_i h; rw [ztW]; split <;> rfl
 · rename_i h; have e:numS (Lib.itoa (getN p.2 o))=if fits (getN p.2 o) then some (getN p.2 o) else none:=znN (getN p.2 o); rw [e]; split <;> rfl
theorem zmI (o:GOp):∀ (ps:List (Bool×Nat)) (c:GOp),zbH ps (ps.map (wordC o)) c=if ∀ p∈ps,okW o p then some (ps.foldl (copy1 o) c) else none
 | [],c=>by simp [zbH]
 | p :: ps,c=>by
   rw [List.map_cons]; unfold zbH; rw [okW_read]; by_cases h:okW o p
   · rw [if_pos h]; simp only; rw [zmI o ps]; by_cases h2:∀ q∈ps,okW o q
     · rw [if_pos h2,if_pos (fun q hq=>(List.mem_cons.1 hq).elim (fun e=>e▸h) (fun e=>h2 q e))]; rfl
     · rw [if_neg h2,if_neg (fun q=>h2 (fun r hr=>q r (by simp [hr])))]
   · rw [if_neg h,if_neg (fun q=>h (q p (by simp)))]
theorem wordC_free {o:GOp} {p:Bool×Nat}:(32:UInt8) ∉ wordC o p:=by
 unfold wordC; split
 · exact wordL_free (by decide) (by decide) (by decide)
 · exact znG (by decide) (by decide)
theorem kw_free:∀ W < 12,(32:UInt8) ∉ kw W:=by decide
theorem par_line {W:Nat} (hW:W < 12) (o:GOp):parS (lineS W o)=if ∀ p∈slotsC W,okW o p then some (copyS W o) else none:=by
 unfold parS lineS
 rw [zlp 32 _ (by simp) (fun w hw=>by
  rcases List.mem_cons.1 hw with rfl | hw
  · exact kw_free W hW
  · obtain ⟨p,_,rfl⟩:=List.mem_map.1 hw
    exact wordC_free)]
 simp only; rw [form_at hW rfl,if_pos ⟨hW,by rw [List.length_map]⟩,zmI]; rfl
end Go.Proofs.YtdclabgakicjeaaGreatDoor
namespace Go.Proofs.YtdclabgakicjeaaGreatDoor
open Go.Ab Go.Str
set_option maxRecDepth 100000
theorem zo3 {o:GOp} {w:Nat} (hw:w < 12) (h:isForm o w=true):lineF o=w:=by
 rcases lt12' hw with rfl | rfl | rfl | rfl | rfl | rfl | rfl | rfl | rfl | rfl | rfl | rfl
 all_goals
  simp only [isForm,blankS,zOp,Bool.and_eq_true,Bool.or_eq_true,decide_eq_true_eq] at h; obtain ⟨h1,h2,h3⟩:=h; unfold lineF
  simp_all
theorem zhZ {o:GOp} (h:zbT o < 12):lineF o=zbT o:=by
 have:isForm o (zbT o)=true:=by
  unfold zbT at h ⊢
  cases hf:(List.range 12).find? (isForm o) with
  | none=>rw [hf] at h; simp at h
  | some w=>exact List.find?_some hf
 exact zo3 h this
theorem copy_form {o:GOp} {W:Nat} (hW:W < 12) (h:copyS W o=o):isForm o W=true:=by
 have h1:=congrArg GOp.Kind h; have h2:=congrArg (fun q:GOp=>q.Event.Kind) h; have h3:=congrArg (fun q:GOp=>q.Appeal.Kind) h; rcases lt12' hW with rfl | rfl | rfl | rfl | rfl | rfl | rfl | rfl | rfl | rfl | rfl | rfl
 all_goals
  simp only [copyS,slotsC,blankS,zOp,List.foldl_cons,List.foldl_nil,copy1,putN,putL,if_true,Bool.false_eq_true,if_false] at h1 h2 h3; simp only [isForm,blankS,zOp,Bool.and_eq_true,Bool.or_eq_true,decide_eq_true_eq]; simp [← h1,← h2,← h3]
theorem znI {o:GOp} {W:Nat} (hW:W < 12) (h:copyS W o=o):zbT o=W:=by
 have hi:=copy_form hW h; have hl:=zo3 hW hi
 have:zbT o < 12:=by
  unfold zbT
  cases hf:(List.range 12).find? (isForm o) with
  | none=>exact absurd hi (List.find?_eq_none.1 hf W (List.mem_range.2 hW))
  | some w=>exact List.mem_range.1 (List.mem_of_find?_eq_some hf)
 rw [← zhZ this,hl]
theorem zqD {o:GOp} {W:Nat} (hW:W < 12):((copyS W o).Script.Pages=o.Script.Pages∧(true,9)∈slotsC W∨(copyS W o).Script.Pages=[])∧((copyS W o).Script.Answers=o.Script.Answers∧(true,10)∈slotsC W∨(copyS W o).Script.Answers=[])∧((copyS W o).Event.Pages=o.Event.Pages∧(true,19)∈slotsC W∨(copyS W o).Event.Pages=[])∧((copyS W o).Bounds=o.Bounds∧(true,28)∈slotsC W∨(copyS W o).Bounds=[]):=by
 rcases lt12' hW with rfl | rfl | rfl | rfl | rfl | rfl | rfl | rfl | rfl | rfl | rfl | rfl
 all_goals
  simp only [copyS,slotsC,blankS,zOp,List.foldl_cons,List.foldl_nil,copy1,putN,putL,getL,if_true,Bool.false_eq_true,if_false]; simp
theorem zk1 {o:GOp} (h:fmtS o≠none):o.Script.Pages.length≤300∧o.Script.Answers.length≤300∧o.Event.Pages.length≤300∧o.Bounds.length≤300:=by
 unfold fmtS at h; split at h
 case isFalse=>exact absurd rfl h
 rename_i hc; obtain ⟨hW,hok,hcp⟩:=hc; obtain ⟨c1,c2,c3,c4⟩:=zqD (o:=o) hW; rw [hcp] at c1 c2 c3 c4; refine ⟨?_,?_,?_,?_⟩
 · rcases c1 with ⟨_,h⟩ | h
   · exact (hok _ h).1
   · rw [h]; decide
 · rcases c2 with ⟨_,h⟩ | h
   · exact (hok _ h).1
   · rw [h]; decide
 · rcases c3 with ⟨_,h⟩ | h
   · exact (hok _ h).1
   · rw [h]; decide
 · rcases c4 with ⟨_,h⟩ | h
   · exact (hok _ h).1
   · rw [h]; decide
theorem copy_small {o:GOp} (ho:OpW o) {W:Nat} (hW:W < 12):(copyS W o).Bounds.length < 1000000000∧(copyS W o).Script.Pages.length < 1000000000∧(copyS W o).Script.Answers.length < 1000000000∧(copyS W o).Event.Pages.length < 1000000000:=by
 obtain ⟨c1,c2,c3,c4⟩:=zqD (o:=o) hW; have l9:o.Script.Pages.length≤1000:=(ho.list 9).1; have l10:o.Script.Answers.length≤1000:=(ho.list 10).1; have l19:o.Event.Pages.length≤1000:=(ho.list 19).1; have l28:o.Bounds.length≤1000:=(ho.list 28).1; refine ⟨?_,?_,?_,?_⟩
 · rcases c4 with ⟨h,_⟩ | h <;> rw [h]
   · omega
   · decide
 · rcases c1 with ⟨h,_⟩ | h <;> rw [h]
   · omega
   · decide
 · rcases c2 with ⟨h,_⟩ | h <;> rw [h]
   · omega
   · decide
 · rcases c3 with ⟨h,_⟩ | h <;> rw [h]
   · omega
   · decide
theorem word_len2 {o:GOp} (ho:OpW o) (p:Bool×Nat):(wordC o p).length≤21001:=by
 unfold wordC; split
 · have:=zsm (ho.list p.2).2; have:=(ho.list p.2).1; omega
 · have:=zda (ho.num p.2); omega
theorem zrV {o:GOp} (ho:OpW o) (W:Nat):(lineS W o).length≤200000:=by
 have hlen:=slots7 W
 have hj:=ziA (k:=21001) 32 (kw W :: (slotsC W).map (wordC o)) (fun w hw=>by
  rcases List.mem_cons.1 hw with rfl | hw
  · have:=kwlen W; omega
  · obtain ⟨p,hp,rfl⟩:=List.mem_map.1 hw
    exact word_len2 ho p)
 unfold lineS; simp only [List.length_cons,List.length_map] at hj; omega
theorem zrK {o:GOp} (ho:OpW o):cw zgC [.agg (nGOp o)] []=some (zbW (tx (fmtR o).1,(fmtR o).2)):=by
 refine zry o ?_
 have hbad:fmtS o=none→some (AV.tup [AV.v (.string (zcd)),I 1],([]:Mem))=some (zbW (tx (fmtR o).1,(fmtR o).2)):=fun e=>by unfold fmtR; rw [e]; rfl
 by_cases h1:300 < o.Script.Pages.length
 · rw [zax (by rw [List.length_map]; omega)]; exact hbad (Classical.byContradiction fun e=>by have:=zk1 e; omega)
 rw [zaz (by rw [List.length_map]; omega)]; by_cases h2:300 < o.Script.Answers.length
 · rw [zax (by rw [List.length_map]; omega)]; exact hbad (Classical.byContradiction fun e=>by have:=zk1 e; omega)
 rw [zaz (by rw [List.length_map]; omega)]; by_cases h3:300 < o.Event.Pages.length
 · rw [zax (by rw [List.length_map]; omega)]; exact hbad (Classical.byContradiction fun e=>by have:=zk1 e; omega)
 rw [zaz (by rw [List.length_map]; omega)]; by_cases h4:300 < o.Bounds.length
 · rw [zax (by rw [List.length_map]; omega)]; exact hbad (Classical.byContradiction fun e=>by have:=zk1 e; omega)
 rw [zaz (by rw [List.length_map]; omega),c_line ho,zaw]
 have hll:(lineR o).length < 4294967281:=by
  unfold lineR; have:=zrV ho (lineF o); split
  · omega
  · simp
 rw [zpS hll,zbL]; by_cases hF:lineF o < 12
 · have e1:lineR o=lineS (lineF o) o:=by unfold lineR; rw [if_pos hF]
   have hp:=par_line hF o; rw [e1]; by_cases hok:∀ p∈slotsC (lineF o),okW o p
   · rw [if_pos hok] at hp; have e2:parR (lineS (lineF o) o)=(copyS (lineF o) o,0):=by unfold parR; rw [hp]
     obtain ⟨s1,s2,s3,s4⟩:=copy_small ho hF; rw [e2,show ((0:Int) != 0)=false from rfl,zam,c_rSame _ _ s1 s2 s3 s4,zaO]; by_cases hc:copyS (lineF o) o=o
     · rw [decide_eq_true hc,Bool.not_true,zam]; have hfo:=znI hF hc
       have e3:fmtS o=some (lineS (lineF o) o):=by unfold fmtS; rw [hfo,if_pos ⟨hF,hok,hc⟩]
       unfold fmtR; rw [e3]; rfl
     · rw [decide_eq_false hc,Bool.not_false,zas]; refine hbad ?_; unfold fmtS; rw [if_neg (fun q=>hc (by rw [zhZ q.1]; exact q.2.2))]
   · rw [if_neg hok] at hp; have e2:parR (lineS (lineF o) o)=(zOp,7):=by unfold parR; rw [hp]
     rw [e2,show ((7:Int) != 0)=true from rfl,zas]; refine hbad ?_; unfold fmtS; rw [if_neg (fun q=>hok (by rw [zhZ q.1]; exact q.2.1))]
 · have e1:lineR o=[]:=by unfold lineR; rw [if_neg hF]
   have e2:parR []=(zOp,7):=by rfl
   rw [e1,e2,show ((7:Int) != 0)=true from rfl,zas]; refine hbad ?_; unfold fmtS; rw [if_neg (fun q=>hF (by rw [zhZ q.1]; exact q.1))]
end Go.Proofs.YtdclabgakicjeaaGreatDoor
namespace Go.Proofs.YtdclabgakicjeaaGreatDoor
open Go.Ab Go.Str
set_option maxRecDepth 100000
theorem zqT (a b:List UInt8) (ns:List Int):zbo (a++b) ns=a++zbo b ns:=by rw [ziK,ziK,List.append_assoc]
theorem zma {o:zaG} (h:OutW o):cw zen [.agg (zaF o)] []=some (zaA (tx (outS o))):=by
 refine zqM o ?_; have h1:=zda h.1; rw [show (ziS:ByteArray)=tx [32,103,114,97,100,101] from rfl,show (zf7:ByteArray)=tx [32,97,98,115,101,110,116] from rfl,show (ziT:ByteArray)=tx [32,112,101,110,100,105,110,103] from rfl,znp h.1]; simp only [zaw]; unfold outS
 have w2:∀ n∈[o.Grade,o.Total],W64 n:=fun n hn=>by
  simp only [List.mem_cons,List.mem_nil_iff,or_false] at hn; rcases hn with rfl | rfl
  · exact h.2.1
  · exact h.2.2.1
 have w1:∀ n∈[o.Reason],W64 n:=fun n hn=>by simp only [List.mem_cons,List.mem_nil_iff,or_false] at hn; subst hn; exact h.2.2.2
 by_cases k0:o.Kind=0
 · have hj:=zbQ _ [32,103,114,97,100,101] w2; simp only [List.length_cons,List.length_nil] at hj; rw [show (o.Kind == 0)=true from beq_iff_eq.2 k0,zas,zn4 (by simp) (by simp) w2 (by simp) (by simp),zaw,if_pos k0,zqT]; simp only [List.map_nil,List.flatMap_nil,List.append_nil]; rw [zai (by rw [zap,zap]; omega),zaY]; rfl
 rw [show (o.Kind == 0)=false from beq_eq_false_iff_ne.2 k0,zam,if_neg k0]; by_cases k1:o.Kind=1
 · rw [show (o.Kind == 1)=true from beq_iff_eq.2 k1,zas,zai (by rw [zap,zap]; simp; omega),zaY,if_pos k1]; rfl
 rw [show (o.Kind == 1)=false from beq_eq_false_iff_ne.2 k1,zam,if_neg k1]; by_cases k2:o.Kind=2
 · have hj:=zbQ _ [32,112,101,110,100,105,110,103] w1; simp only [List.length_cons,List.length_nil] at hj; rw [show (o.Kind == 2)=true from beq_iff_eq.2 k2,zas,zn4 (by simp) (by simp) w1 (by simp) (by simp),zaw,if_pos k2,zqT]; simp only [List.map_nil,List.flatMap_nil,List.append_nil]; rw [zai (by rw [zap,zap]; omega),zaY]; rfl
 rw [show (o.Kind == 2)=false from beq_eq_false_iff_ne.2 k2,zam,if_neg k2]; rfl
theorem zo7 (o:GOp) (r:List GOp):linesS (o :: r)=match fmtS o,linesS r with
  | some l,some t=>some (l++10 :: t)
  | _,_=>none:=rfl
theorem fmt_len2 {o:GOp} (ho:OpW o) {l:List UInt8} (h:fmtS o=some l):l.length≤200000:=by
 unfold fmtS at h; split at h
 · injection h with h; subst h; exact zrV ho _
 · cases h
theorem zrL {l:List GOp} (hl:∀ o∈l,OpW o):cw zgD [.sl 31 (List.map nGOp l)] []=some (zbW (tx (scrR l).1,(scrR l).2)):=by
 refine zrA l ?_; unfold scrR; by_cases h3:300 < l.length
 · rw [zax (by rw [List.length_map]; omega),if_pos h3]; rfl
 rw [zaz (by rw [List.length_map]; omega),if_neg h3]
 have key:∀ v:List UInt8,v.length≤200001*0→zdU l (tx v) (0:Nat)=some (zbW (match linesS l with | some t=>(tx (v++t),0) | none=>(tx [],1))):=by
  refine zbR l (fun i r=>∀ v:List UInt8,v.length≤200001*i→zdU l (tx v) (i:Nat)=some (zbW (match linesS r with | some t=>(tx (v++t),0) | none=>(tx [],1)))) ?_ ?_
  · intro v hv; refine zkL l _ _ ?_; rw [zaz (by rw [List.length_map]; omega),show linesS []=some [] from rfl]; simp only [List.append_nil]; rfl
  · intro i x r hi hx hr ih v hv; have hxw:OpW x:=hl x (by rw [← hx]; exact List.getElem_mem hi); refine zkL l _ _ ?_; rw [zax (by rw [List.length_map]; omega),cPQ,zgc,show ((i:Nat):Int).toNat=i from rfl,List.getElem?_eq_getElem hi,Option.bind_some,hx,zrK hxw,zbs,zo7]
    cases hf:fmtS x with
    | none =>
      have e:fmtR x=([],1):=by unfold fmtR; rw [hf]
      rw [e,show ((1:Int) != 0)=true from rfl,zas]; rfl
    | some s =>
      have e:fmtR x=(s,0):=by unfold fmtR; rw [hf]
      have hs:=fmt_len2 hxw hf; rw [e,show ((0:Int) != 0)=false from rfl,zam,show (zeQ:ByteArray)=tx [10] from rfl,zai (by show (tx s).size+_≤_; rw [zap,zap]; simp; omega),show ((tx s,(0:Int)):ByteArray×Int).fst++tx [10]=tx (s++[10]) from zaY s [10],zai (by rw [zap,zap]; simp; omega),zaY,w6Q,show ((i:Nat):Int)+1=((i+1:Nat):Int) by omega]; rw [ih _ (by simp; omega)]
      cases linesS r with
      | none=>rfl
      | some t=>simp
 refine Eq.trans (key [] (by simp)) ?_
 cases linesS l with
 | none=>rfl
 | some t=>rfl
end Go.Proofs.YtdclabgakicjeaaGreatDoor
namespace Go.Proofs.YtdclabgakicjeaaGreatDoor
open Go.Ab Go.Str
set_option maxRecDepth 100000
theorem zmr (o:zaG) (r:List zaG):outsS (o :: r)=outS o++[10]++outsS r:=rfl
theorem rjoin1 {key:List UInt8} {ns:List Int} (hk:key.length≤100) (hn:ns.length≤100) (hns:∀ n∈ns,W64 n):cw zbb [.v (.string (tx key)),.sl 1 (List.map zad ns),.sl 1 (List.map zaJ [])] []=some (zaA (tx (zbo key ns))):=by have:=zn4 (ls:=[]) hk hn hns (by simp) (by simp); simpa using this
section
variable {x:zaL} (hx:RepW x)
theorem c_rep4 (out:∀ o∈x.Outcomes,OutW o) (hf:x.Outcomes.length≤1000000000) {v:List UInt8} (hv:v.length≤2000000000000):zdc x (tx v) (0:Nat)=some (zaA (tx (v++outsS x.Outcomes))):=by
 have key:∀ v:List UInt8,v.length≤2000000000000+201*0→zdc x (tx v) (0:Nat)=some (zaA (tx (v++outsS x.Outcomes))):=by
  refine zbR x.Outcomes (fun i r=>∀ v:List UInt8,v.length≤2000000000000+201*i→zdc x (tx v) (i:Nat)=some (zaA (tx (v++outsS r)))) ?_ ?_
  · intro v hv; refine zkK x _ _ ?_; rw [zaz (by rw [List.length_map]; omega)]; simp [outsS]; rfl
  · intro i o r hi ho hr ih v hv; have hoW:OutW o:=out o (by rw [← ho]; exact List.getElem_mem hi); have hol:=zkA hoW; refine zkK x _ _ ?_; rw [zax (by rw [List.length_map]; omega),cPQ,ziv,show ((i:Nat):Int).toNat=i from rfl,List.getElem?_eq_getElem hi,Option.bind_some,ho,zma hoW,zaw,show (zaZ:ByteArray)=tx [10] from rfl,zai (by rw [zap,zap]; simp; omega),zaY,zai (by rw [zap,zap]; simp; omega),zaY,w6Q,show ((i:Nat):Int)+1=((i+1:Nat):Int) by omega]; rw [ih _ (by simp; omega),zmr,List.append_assoc]
 exact key v (by omega)
theorem logS_len {e:za5} (h:W64 e.Certificate.ID∧W64 e.Certificate.Candidate∧W64 e.Certificate.Grade∧W64 e.Certificate.Time∧W64 e.Certificate.Replaces):(∀ n∈[e.Certificate.ID,e.Certificate.Candidate,e.Certificate.Grade,e.Certificate.Time,e.Certificate.Replaces],W64 n)∧∀ n∈[e.Certificate.ID,e.Certificate.Time],W64 n:=by
 refine ⟨fun n hn=>?_,fun n hn=>?_⟩
 · simp only [List.mem_cons,List.mem_nil_iff,or_false] at hn; rcases hn with rfl | rfl | rfl | rfl | rfl
   · exact h.1
   · exact h.2.1
   · exact h.2.2.1
   · exact h.2.2.2.1
   · exact h.2.2.2.2
 · simp only [List.mem_cons,List.mem_nil_iff,or_false] at hn; rcases hn with rfl | rfl
   · exact h.1
   · exact h.2.2.2.1
include hx in
theorem c_rep3 {v:List UInt8} (hv:v.length≤1000000000000):zcB x (tx v) (0:Nat)=some (zaA (tx (v++x.Log.flatMap logS++[110,111,119,10]++outsS x.Outcomes))):=by
 have hfew:=hx.few.2.1
 have key:∀ v:List UInt8,v.length≤1000000000000+200*0→zcB x (tx v) (0:Nat)=some (zaA (tx (v++x.Log.flatMap logS++[110,111,119,10]++outsS x.Outcomes))):=by
  refine zbR x.Log (fun i r=>∀ v:List UInt8,v.length≤1000000000000+200*i→zcB x (tx v) (i:Nat)=some (zaA (tx (v++r.flatMap logS++[110,111,119,10]++outsS x.Outcomes)))) ?_ ?_
  · intro v hv; refine zkJ x _ _ ?_; rw [zaz (by rw [List.length_map]; omega),show (zgS:ByteArray)=tx [110,111,119,10] from rfl,zai (by rw [zap,zap]; simp; omega),zaY]; refine Eq.trans (c_rep4 hx.out hx.few.2.2.1 (v:=v++[110,111,119,10]) (by simp; omega)) ?_; simp
  · intro i e r hi he hr ih v hv; have hw:=hx.log e (by rw [← he]; exact List.getElem_mem hi); obtain ⟨w5,w2⟩:=logS_len hw; refine zkJ x _ _ ?_; rw [zax (by rw [List.length_map]; omega),cPQ,zhW,show ((i:Nat):Int).toNat=i from rfl,List.getElem?_eq_getElem hi,Option.bind_some,cPQ,zhW,List.getElem?_eq_getElem hi,Option.bind_some,he,show (zaZ:ByteArray)=tx [10] from rfl,show (zjx:ByteArray)=tx [105,115,115,117,101] from rfl,show (zjy:ByteArray)=tx [114,101,118,111,107,101] from rfl]; by_cases hk:e.Kind=0
    · have hj:=zbQ _ [105,115,115,117,101] w5; simp only [List.length_cons,List.length_nil] at hj; have hlog:logS e=zbo [105,115,115,117,101] [e.Certificate.ID,e.Certificate.Candidate,e.Certificate.Grade,e.Certificate.Time,e.Certificate.Replaces]++[10]:=by unfold logS; rw [if_pos hk]
      rw [show (e.Kind == 0)=true from beq_iff_eq.2 hk,zas,rjoin1 (by simp) (by simp) w5,zaw,zai (by rw [zap,zap]; simp; omega),zaY,zai (by rw [zap,zap]; simp; omega),zaY,w6Q,show ((i:Nat):Int)+1=((i+1:Nat):Int) by omega,← hlog]; rw [ih _ (by rw [hlog]; simp; omega)]; simp
    · have hj:=zbQ _ [114,101,118,111,107,101] w2; simp only [List.length_cons,List.length_nil] at hj; have hlog:logS e=zbo [114,101,118,111,107,101] [e.Certificate.ID,e.Certificate.Time]++[10]:=by unfold logS; rw [if_neg hk]
      rw [show (e.Kind == 0)=false from beq_eq_false_iff_ne.2 hk,zam,rjoin1 (by simp) (by simp) w2,zaw,zai (by rw [zap,zap]; simp; omega),zaY,zai (by rw [zap,zap]; simp; omega),zaY,w6Q,show ((i:Nat):Int)+1=((i+1:Nat):Int) by omega,← hlog]; rw [ih _ (by rw [hlog]; simp; omega)]; simp
 exact key v (by omega)
theorem c_rep2 (p:zaS) (hp:∀ o∈p.Outcomes,OutW o) (hf:p.Outcomes.length≤1000000000) (k:Int) {Y:AV×Mem} {v:List UInt8} (hv:v.length+(outsS p.Outcomes).length≤1000000000000) (hn:zb8 x (tx (v++outsS p.Outcomes)) (w64 (k+1))=some Y):zdb x k p (tx v) (0:Nat)=some Y:=by
 have key:∀ v:List UInt8,v.length+(outsS p.Outcomes).length≤1000000000000→zb8 x (tx (v++outsS p.Outcomes)) (w64 (k+1))=some Y→zdb x k p (tx v) (0:Nat)=some Y:=by
  refine zbR p.Outcomes (fun i r=>∀ v:List UInt8,v.length+(outsS r).length≤1000000000000→zb8 x (tx (v++outsS r)) (w64 (k+1))=some Y→zdb x k p (tx v) (i:Nat)=some Y) ?_ ?_
  · intro v hv hn; refine zkI x _ _ _ _ ?_; rw [zaz (by rw [List.length_map]; omega)]; simpa [outsS] using hn
  · intro i o r hi ho hr ih v hv hn; have hoW:OutW o:=hp o (by rw [← ho]; exact List.getElem_mem hi); have hol:=zkA hoW; rw [zmr,List.length_append,List.length_append] at hv; simp only [List.length_cons,List.length_nil] at hv; refine zkI x _ _ _ _ ?_; rw [zax (by rw [List.length_map]; omega),cPQ,ziv,show ((i:Nat):Int).toNat=i from rfl,List.getElem?_eq_getElem hi,Option.bind_some,ho,zma hoW,zaw,show (zaZ:ByteArray)=tx [10] from rfl,zai (by rw [zap,zap]; simp; omega),zaY,zai (by rw [zap,zap]; simp; omega),zaY,w6Q,show ((i:Nat):Int)+1=((i+1:Nat):Int) by omega]; exact ih _ (by simp; omega) (by rw [zmr] at hn; simpa using hn)
 exact key v hv hn
include hx in
theorem c_rReport:cw ziy [.agg (zaC x)] []=some (zaA (tx (repS x))):=by
 refine zrz x ?_; rw [show (zjz:ByteArray)=tx [] from rfl]; have hsz:=hx.size; unfold repS at hsz; simp only [List.length_append] at hsz; have hfew:=hx.few.1
 have key:∀ v:List UInt8,v.length+(x.Published.flatMap pubS).length≤1000000000000→zb8 x (tx v) (0:Nat)=some (zaA (tx (v++x.Published.flatMap pubS++x.Log.flatMap logS++[110,111,119,10]++outsS x.Outcomes))):=by
  refine zbR x.Published (fun i r=>∀ v:List UInt8,v.length+(r.flatMap pubS).length≤1000000000000→zb8 x (tx v) (i:Nat)=some (zaA (tx (v++r.flatMap pubS++x.Log.flatMap logS++[110,111,119,10]++outsS x.Outcomes)))) ?_ ?_
  · intro v hv; refine zkH x _ _ ?_; rw [zaz (by rw [List.length_map]; omega)]; refine Eq.trans (c_rep3 hx (v:=v) (by simp at hv; omega)) ?_; simp
  · intro i p r hi hp hr ih v hv; have hm:p∈x.Published:=by rw [← hp]; exact List.getElem_mem hi
    have hpw:=hx.pub p hm; have hpo:=hx.few.2.2.2 p hm
    have w2:∀ n∈[p.At,p.Time],W64 n:=fun n hn=>by
     simp only [List.mem_cons,List.mem_nil_iff,or_false] at hn; rcases hn with rfl | rfl
     · exact hpw.1
     · exact hpw.2.1
    have hj:=zbQ _ [112,117,98,108,105,115,104,101,100] w2; have hpub:pubS p=zbo [112,117,98,108,105,115,104,101,100] [p.At,p.Time]++[10]++outsS p.Outcomes:=rfl; rw [List.flatMap_cons,List.length_append,hpub,List.length_append,List.length_append] at hv; simp only [List.length_cons,List.length_nil] at hv hj; refine zkH x _ _ ?_; rw [zax (by rw [List.length_map]; omega),cPQ,ziX,show ((i:Nat):Int).toNat=i from rfl,List.getElem?_eq_getElem hi,Option.bind_some,hp,show (zjw:ByteArray)=tx [112,117,98,108,105,115,104,101,100] from rfl,show (zaZ:ByteArray)=tx [10] from rfl,rjoin1 (by simp) (by simp) w2,zaw,zai (by rw [zap,zap]; simp; omega),zaY,zai (by rw [zap,zap]; simp; omega),zaY]; refine c_rep2 p hpw.2.2 hpo _ (by simp; omega) ?_; rw [w6Q,show ((i:Nat):Int)+1=((i+1:Nat):Int) by omega]; refine Eq.trans (ih _ (by simp only [List.length_append,List.length_cons,List.length_nil]; omega)) ?_; rw [List.flatMap_cons,hpub]; simp
 refine Eq.trans (key [] (by simp only [List.length_nil]; omega)) ?_; rfl
end
end Go.Proofs.YtdclabgakicjeaaGreatDoor
namespace Go.Proofs.YtdclabgakicjeaaGreatDoor
open Go.Ab
set_option maxRecDepth 100000
theorem lt12 {w:Nat} (h:w < 12):w=0∨w=1∨w=2∨w=3∨w=4∨w=5∨w=6∨w=7∨w=8∨w=9∨w=10∨w=11:=by omega
def tsA (w:Nat):List (List AV):=(slotsC w).map fun p=>if p.1 then [.v (.pointer none),.loc 5 31 0 p.2] else [.loc 5 31 0 p.2,.v (.pointer none)]
theorem fm0 (o:GOp):tReg zan zT 0 ⟨[(0,AV.agg (nGOp o))],[]⟩=(some ⟨[(1,AV.loc 1 31 0 0)],[(1,⟨31,zag,[nGOp o],true⟩)]⟩):=by kernel_rfl
theorem fm1 (o:GOp):tReg zan zT 1 ⟨[(1,AV.loc 1 31 0 0)],[(1,⟨31,zag,[nGOp o],true⟩)]⟩=(callD zfu (cw zhq [AV.agg (nGOp o)] []) fun (r0:Int)=>some ⟨[(1,AV.loc 1 31 0 0),(4,I r0)],[(1,⟨31,zag,[nGOp o],true⟩)]⟩):=by kernel_rfl
theorem fm10l (o:GOp) (c:GOp) (fs:List (List AV)) (W:Nat) (hW:W < 12) (ws:List ByteArray) (n:Int) (i:Int) (v:List Int):tReg zan zT 10 ⟨[(1,AV.fp (nGOp o)),(5,AV.loc 5 31 0 0),(7,AV.row 22 2 0 (slotsC W).length),(8,AV.row 8 1 0 (List.length (List.map nStr ws))),(9,I i),(10,AV.loc 10 2 0 0),(28,AV.sl 2 fs),(29,I n),(30,I i)],[(5,⟨31,zag,[nGOp c],true⟩),(8,⟨1,zaD,List.map nStr ws,false⟩),(10,⟨2,zae,[[AV.v (.pointer none),AV.fp [AV.sl 1 (List.map zad v)]]],true⟩),(22,⟨2,zae,tsA W,true⟩)]⟩=(callD zbB (cw zcn [AV.agg [AV.v (.pointer none),AV.fp [AV.sl 1 (List.map zad v)]]] []) fun (r0:ByteArray×Bool) =>
 some ⟨[(1,AV.fp (nGOp o)),(5,AV.loc 5 31 0 0),(7,AV.row 22 2 0 (slotsC W).length),(8,AV.row 8 1 0 (List.length (List.map nStr ws))),(9,I i),(10,AV.loc 10 2 0 0),(11,AV.v (.string r0.fst)),(12,B r0.snd),(28,AV.sl 2 fs),(29,I n),(30,I i)],[(5,⟨31,zag,[nGOp c],true⟩),(8,⟨1,zaD,List.map nStr ws,false⟩),(10,⟨2,zae,[[AV.v (.pointer none),AV.fp [AV.sl 1 (List.map zad v)]]],true⟩),(22,⟨2,zae,tsA W,true⟩)]⟩):=by
 rcases lt12 hW with rfl | rfl | rfl | rfl | rfl | rfl | rfl | rfl | rfl | rfl | rfl | rfl <;> kernel_rfl
theorem fm10n (o:GOp) (c:GOp) (fs:List (List AV)) (W:Nat) (hW:W < 12) (ws:List ByteArray) (n:Int) (i:Int) (v:Int):tReg zan zT 10 ⟨[(1,AV.fp (nGOp o)),(5,AV.loc 5 31 0 0),(7,AV.row 22 2 0 (slotsC W).length),(8,AV.row 8 1 0 (List.length (List.map nStr ws))),(9,I i),(10,AV.loc 10 2 0 0),(28,AV.sl 2 fs),(29,I n),(30,I i)],[(5,⟨31,zag,[nGOp c],true⟩),(8,⟨1,zaD,List.map nStr ws,false⟩),(10,⟨2,zae,[[AV.fp [I v],AV.v (.pointer none)]],true⟩),(22,⟨2,zae,tsA W,true⟩)]⟩=(callD zbB (cw zcn [AV.agg [AV.fp [I v],AV.v (.pointer none)]] []) fun (r0:ByteArray×Bool) =>
 some ⟨[(1,AV.fp (nGOp o)),(5,AV.loc 5 31 0 0),(7,AV.row 22 2 0 (slotsC W).length),(8,AV.row 8 1 0 (List.length (List.map nStr ws))),(9,I i),(10,AV.loc 10 2 0 0),(11,AV.v (.string r0.fst)),(12,B r0.snd),(28,AV.sl 2 fs),(29,I n),(30,I i)],[(5,⟨31,zag,[nGOp c],true⟩),(8,⟨1,zaD,List.map nStr ws,false⟩),(10,⟨2,zae,[[AV.fp [I v],AV.v (.pointer none)]],true⟩),(22,⟨2,zae,tsA W,true⟩)]⟩):=by
 rcases lt12 hW with rfl | rfl | rfl | rfl | rfl | rfl | rfl | rfl | rfl | rfl | rfl | rfl <;> kernel_rfl
theorem fm11l (o:GOp) (c:GOp) (fs:List (List AV)) (W:Nat) (hW:W < 12) (ws:List ByteArray) (n:Int) (i:Int) (v:List Int) (s:ByteArray) (q:Bool):tReg zan zT 11 ⟨[(1,AV.fp (nGOp o)),(5,AV.loc 5 31 0 0),(7,AV.row 22 2 0 (slotsC W).length),(8,AV.row 8 1 0 (List.length (List.map nStr ws))),(9,I i),(10,AV.loc 10 2 0 0),(11,AV.v (.string s)),(12,B q),(28,AV.sl 2 fs),(29,I n),(30,I i)],[(5,⟨31,zag,[nGOp c],true⟩),(8,⟨1,zaD,List.map nStr ws,false⟩),(10,⟨2,zae,[[AV.v (.pointer none),AV.fp [AV.sl 1 (List.map zad v)]]],true⟩),(22,⟨2,zae,tsA W,true⟩)]⟩=(some ⟨[(1,AV.fp (nGOp o)),(5,AV.loc 5 31 0 0),(7,AV.row 22 2 0 (slotsC W).length),(8,AV.row 8 1 0 (List.length (List.map nStr ws))),(9,I i),(10,AV.loc 10 2 0 0),(11,AV.v (.string s)),(28,AV.sl 2 fs),(29,I n),(30,I i),(41,B (!q))],[(5,⟨31,zag,[nGOp c],true⟩),(8,⟨1,zaD,List.map nStr ws,false⟩),(10,⟨2,zae,[[AV.v (.pointer none),AV.fp [AV.sl 1 (List.map zad v)]]],true⟩),(22,⟨2,zae,tsA W,true⟩)]⟩):=by rcases lt12 hW with rfl | rfl | rfl | rfl | rfl | rfl | rfl | rfl | rfl | rfl | rfl | rfl <;> kernel_rfl
theorem fm11n (o:GOp) (c:GOp) (fs:List (List AV)) (W:Nat) (hW:W < 12) (ws:List ByteArray) (n:Int) (i:Int) (v:Int) (s:ByteArray) (q:Bool):tReg zan zT 11 ⟨[(1,AV.fp (nGOp o)),(5,AV.loc 5 31 0 0),(7,AV.row 22 2 0 (slotsC W).length),(8,AV.row 8 1 0 (List.length (List.map nStr ws))),(9,I i),(10,AV.loc 10 2 0 0),(11,AV.v (.string s)),(12,B q),(28,AV.sl 2 fs),(29,I n),(30,I i)],[(5,⟨31,zag,[nGOp c],true⟩),(8,⟨1,zaD,List.map nStr ws,false⟩),(10,⟨2,zae,[[AV.fp [I v],AV.v (.pointer none)]],true⟩),(22,⟨2,zae,tsA W,true⟩)]⟩=(some ⟨[(1,AV.fp (nGOp o)),(5,AV.loc 5 31 0 0),(7,AV.row 22 2 0 (slotsC W).length),(8,AV.row 8 1 0 (List.length (List.map nStr ws))),(9,I i),(10,AV.loc 10 2 0 0),(11,AV.v (.string s)),(28,AV.sl 2 fs),(29,I n),(30,I i),(41,B (!q))],[(5,⟨31,zag,[nGOp c],true⟩),(8,⟨1,zaD,List.map nStr ws,false⟩),(10,⟨2,zae,[[AV.fp [I v],AV.v (.pointer none)]],true⟩),(22,⟨2,zae,tsA W,true⟩)]⟩):=by rcases lt12 hW with rfl | rfl | rfl | rfl | rfl | rfl | rfl | rfl | rfl | rfl | rfl | rfl <;> kernel_rfl
theorem fm13l (o:GOp) (c:GOp) (fs:List (List AV)) (W:Nat) (hW:W < 12) (ws:List ByteArray) (n:Int) (i:Int) (v:List Int) (s:ByteArray):tReg zan zT 13 ⟨[(1,AV.fp (nGOp o)),(5,AV.loc 5 31 0 0),(7,AV.row 22 2 0 (slotsC W).length),(8,AV.row 8 1 0 (List.length (List.map nStr ws))),(9,I i),(10,AV.loc 10 2 0 0),(11,AV.v (.string s)),(28,AV.sl 2 fs),(29,I n),(30,I i)],[(5,⟨31,zag,[nGOp c],true⟩),(8,⟨1,zaD,List.map nStr ws,false⟩),(10,⟨2,zae,[[AV.v (.pointer none),AV.fp [AV.sl 1 (List.map zad v)]]],true⟩),(22,⟨2,zae,tsA W,true⟩)]⟩=(chk ((List.map nStr ws).length=(List.map nStr ws).length)<|
 chk (((List.map nStr ws).length+1)*(16+1)≤1099511627776)<|
 chk ((List.map nStr ws++[[AV.v (Go.Value.string s)]]).length=(List.map nStr ws++[[AV.v (Go.Value.string s)]]).length)<|
 some ⟨[(1,AV.fp (nGOp o)),(5,AV.loc 5 31 0 0),(7,AV.row 22 2 0 (slotsC W).length),(8,AV.row 8 1 0 (List.length ((List.map nStr ws)++([[AV.v (.string s)]])))),(9,I i),(10,AV.loc 10 2 0 0),(28,AV.sl 2 fs),(29,I n),(30,I i)],[(5,⟨31,zag,[nGOp c],true⟩),(8,⟨1,zaD,(List.map nStr ws)++([nStr s]),false⟩),(10,⟨2,zae,[[AV.v (.pointer none),AV.fp [AV.sl 1 (List.map zad v)]]],true⟩),(22,⟨2,zae,tsA W,true⟩)]⟩):=by
 rcases lt12 hW with rfl | rfl | rfl | rfl | rfl | rfl | rfl | rfl | rfl | rfl | rfl | rfl <;> kernel_rfl
theorem fm13n (o:GOp) (c:GOp) (fs:List (List AV)) (W:Nat) (hW:W < 12) (ws:List ByteArray) (n:Int) (i:Int) (v:Int) (s:ByteArray):tReg zan zT 13 ⟨[(1,AV.fp (nGOp o)),(5,AV.loc 5 31 0 0),(7,AV.row 22 2 0 (slotsC W).length),(8,AV.row 8 1 0 (List.length (List.map nStr ws))),(9,I i),(10,AV.loc 10 2 0 0),(11,AV.v (.string s)),(28,AV.sl 2 fs),(29,I n),(30,I i)],[(5,⟨31,zag,[nGOp c],true⟩),(8,⟨1,zaD,List.map nStr ws,false⟩),(10,⟨2,zae,[[AV.fp [I v],AV.v (.pointer none)]],true⟩),(22,⟨2,zae,tsA W,true⟩)]⟩=(chk ((List.map nStr ws).length=(List.map nStr ws).length)<|
 chk (((List.map nStr ws).length+1)*(16+1)≤1099511627776)<|
 chk ((List.map nStr ws++[[AV.v (Go.Value.string s)]]).length=(List.map nStr ws++[[AV.v (Go.Value.string s)]]).length)<|
 some ⟨[(1,AV.fp (nGOp o)),(5,AV.loc 5 31 0 0),(7,AV.row 22 2 0 (slotsC W).length),(8,AV.row 8 1 0 (List.length ((List.map nStr ws)++([[AV.v (.string s)]])))),(9,I i),(10,AV.loc 10 2 0 0),(28,AV.sl 2 fs),(29,I n),(30,I i)],[(5,⟨31,zag,[nGOp c],true⟩),(8,⟨1,zaD,(List.map nStr ws)++([nStr s]),false⟩),(10,⟨2,zae,[[AV.fp [I v],AV.v (.pointer none)]],true⟩),(22,⟨2,zae,tsA W,true⟩)]⟩):=by
 rcases lt12 hW with rfl | rfl | rfl | rfl | rfl | rfl | rfl | rfl | rfl | rfl | rfl | rfl <;> kernel_rfl
theorem fm14l (o:GOp) (c:GOp) (fs:List (List AV)) (W:Nat) (hW:W < 12) (ws:List ByteArray) (n:Int) (i:Int) (v:List Int):tReg zan zT 14 ⟨[(1,AV.fp (nGOp o)),(5,AV.loc 5 31 0 0),(7,AV.row 22 2 0 (slotsC W).length),(8,AV.row 8 1 0 (List.length (List.map nStr ws))),(9,I i),(10,AV.loc 10 2 0 0),(28,AV.sl 2 fs),(29,I n),(30,I i)],[(5,⟨31,zag,[nGOp c],true⟩),(8,⟨1,zaD,List.map nStr ws,false⟩),(10,⟨2,zae,[[AV.v (.pointer none),AV.fp [AV.sl 1 (List.map zad v)]]],true⟩),(22,⟨2,zae,tsA W,true⟩)]⟩=(some ⟨[(1,AV.fp (nGOp o)),(5,AV.loc 5 31 0 0),(7,AV.row 22 2 0 (slotsC W).length),(8,AV.row 8 1 0 (List.length (List.map nStr ws))),(9,I i),(10,AV.loc 10 2 0 0),(28,AV.sl 2 fs),(29,I n),(30,I i),(48,B true)],[(5,⟨31,zag,[nGOp c],true⟩),(8,⟨1,zaD,List.map nStr ws,false⟩),(10,⟨2,zae,[[AV.v (.pointer none),AV.fp [AV.sl 1 (List.map zad v)]]],true⟩),(22,⟨2,zae,tsA W,true⟩)]⟩):=by rcases lt12 hW with rfl | rfl | rfl | rfl | rfl | rfl | rfl | rfl | rfl | rfl | rfl | rfl <;> kernel_rfl
theorem fm14n (o:GOp) (c:GOp) (fs:List (List AV)) (W:Nat) (hW:W < 12) (ws:List ByteArray) (n:Int) (i:Int) (v:Int):tReg zan zT 14 ⟨[(1,AV.fp (nGOp o)),(5,AV.loc 5 31 0 0),(7,AV.row 22 2 0 (slotsC W).length),(8,AV.row 8 1 0 (List.length (List.map nStr ws))),(9,I i),(10,AV.loc 10 2 0 0),(28,AV.sl 2 fs),(29,I n),(30,I i)],[(5,⟨31,zag,[nGOp c],true⟩),(8,⟨1,zaD,List.map nStr ws,false⟩),(10,⟨2,zae,[[AV.fp [I v],AV.v (.pointer none)]],true⟩),(22,⟨2,zae,tsA W,true⟩)]⟩=(some ⟨[(1,AV.fp (nGOp o)),(5,AV.loc 5 31 0 0),(7,AV.row 22 2 0 (slotsC W).length),(8,AV.row 8 1 0 (List.length (List.map nStr ws))),(9,I i),(10,AV.loc 10 2 0 0),(28,AV.sl 2 fs),(29,I n),(30,I i),(48,B (!true))],[(5,⟨31,zag,[nGOp c],true⟩),(8,⟨1,zaD,List.map nStr ws,false⟩),(10,⟨2,zae,[[AV.fp [I v],AV.v (.pointer none)]],true⟩),(22,⟨2,zae,tsA W,true⟩)]⟩):=by rcases lt12 hW with rfl | rfl | rfl | rfl | rfl | rfl | rfl | rfl | rfl | rfl | rfl | rfl <;> kernel_rfl
theorem fm17 (o:GOp) (c:GOp) (fs:List (List AV)) (W:Nat) (hW:W < 12) (ws:List ByteArray) (n:Int) (i:Int):tReg zan zT 17 ⟨[(1,AV.fp (nGOp o)),(5,AV.loc 5 31 0 0),(7,AV.row 22 2 0 (slotsC W).length),(8,AV.row 8 1 0 (List.length (List.map nStr ws))),(28,AV.sl 2 fs),(29,I n),(30,I i)],[(5,⟨31,zag,[nGOp c],true⟩),(8,⟨1,zaD,List.map nStr ws,false⟩),(22,⟨2,zae,tsA W,true⟩)]⟩=(some ⟨[(1,AV.fp (nGOp o)),(5,AV.loc 5 31 0 0),(7,AV.row 22 2 0 (slotsC W).length),(8,AV.row 8 1 0 (List.length (List.map nStr ws))),(28,AV.sl 2 fs),(29,I n),(30,I (w64 (i+1)))],[(5,⟨31,zag,[nGOp c],true⟩),(8,⟨1,zaD,List.map nStr ws,false⟩),(22,⟨2,zae,tsA W,true⟩)]⟩):=by rcases lt12 hW with rfl | rfl | rfl | rfl | rfl | rfl | rfl | rfl | rfl | rfl | rfl | rfl <;> kernel_rfl
theorem fm18 (o:GOp) (c:GOp) (fs:List (List AV)) (W:Nat) (hW:W < 12) (ws:List ByteArray):tReg zan zT 18 ⟨[(1,AV.fp (nGOp o)),(5,AV.loc 5 31 0 0),(8,AV.row 8 1 0 (List.length (List.map nStr ws)))],[(5,⟨31,zag,[nGOp c],true⟩),(8,⟨1,zaD,List.map nStr ws,false⟩)]⟩=(callD zaq (cw ziw [AV.agg (nGOp o),AV.agg (nGOp c)] []) fun (r0:Bool) =>
 some ⟨[(8,AV.row 8 1 0 (List.length (List.map nStr ws))),(73,B (!r0))],[(8,⟨1,zaD,List.map nStr ws,false⟩)]⟩):=by
 rcases lt12 hW with rfl | rfl | rfl | rfl | rfl | rfl | rfl | rfl | rfl | rfl | rfl | rfl <;> kernel_rfl
theorem fm2 (o:GOp) (w:Int):tReg zan zT 2 ⟨[(1,AV.loc 1 31 0 0),(4,I w)],[(1,⟨31,zag,[nGOp o],true⟩)]⟩=(some ⟨[(1,AV.loc 1 31 0 0),(4,I w),(16,B (w == 12))],[(1,⟨31,zag,[nGOp o],true⟩)]⟩):=by kernel_rfl
theorem fm20 (ws:List ByteArray):tReg zan zT 20 ⟨[(8,AV.row 8 1 0 (List.length (List.map nStr ws)))],[(8,⟨1,zaD,List.map nStr ws,false⟩)]⟩=(chk (0+(List.map nStr ws).length≤(List.map nStr ws).length)<|
 callD zal (cw zdP [AV.sl 1 (List.take ((List.map nStr ws).length) (List.map nStr ws)),AV.v (.string ({ data:={ toList:=[32] } }))] []) fun (r0:ByteArray) =>
 some ⟨[(2,AV.v (.string r0)),(3,I 0)],[]⟩):=by kernel_rfl
theorem fm4 (o:GOp) (w:Int):tReg zan zT 4 ⟨[(1,AV.loc 1 31 0 0),(4,I w)],[(1,⟨31,zag,[nGOp o],true⟩)]⟩=(callD zck (cw zek [I w] []) fun (r0:GOp)=>some ⟨[(1,AV.loc 1 31 0 0),(4,I w),(5,AV.loc 5 31 0 0)],[(1,⟨31,zag,[nGOp o],true⟩),(5,⟨31,zag,[nGOp r0],true⟩)]⟩):=by kernel_rfl
theorem fm6 (o:GOp) (c:GOp) (fs:List (List AV)) (W:Nat) (hW:W < 12) (s:ByteArray) (n:Int) (w:Int):tSeg zan zT 6 2 4 ⟨[(1,AV.fp (nGOp o)),(5,AV.loc 5 31 0 0),(24,AV.fp [AV.v (.string s),I n]),(6,AV.sl 2 fs),(7,AV.row 22 2 0 (slotsC W).length)],[(5,⟨31,zag,[nGOp c],true⟩),(22,⟨2,zae,tsA W,true⟩)]⟩=(some ⟨[(8,AV.row 27 1 0 (List.length ([[AV.v (.string s)]]))),(27,AV.row 27 1 0 (List.length ([[AV.v (.string s)]]))),(26,AV.v (.string s)),(25,AV.fp [AV.v (.string s),I n]),(1,AV.fp (nGOp o)),(5,AV.loc 5 31 0 0),(24,AV.fp [AV.v (.string s),I n]),(6,AV.sl 2 fs),(7,AV.row 22 2 0 (slotsC W).length)],[(27,⟨1,zaD,[nStr s],false⟩),(5,⟨31,zag,[nGOp c],true⟩),(22,⟨2,zae,tsA W,true⟩)]⟩):=by rcases lt12 hW with rfl | rfl | rfl | rfl | rfl | rfl | rfl | rfl | rfl | rfl | rfl | rfl <;> kernel_rfl
theorem fm7 (o:GOp) (c:GOp) (fs:List (List AV)) (W:Nat) (hW:W < 12) (ws:List ByteArray):tReg zan zT 7 ⟨[(1,AV.fp (nGOp o)),(5,AV.loc 5 31 0 0),(6,AV.sl 2 fs),(7,AV.row 22 2 0 (slotsC W).length),(8,AV.row 8 1 0 (List.length (List.map nStr ws)))],[(5,⟨31,zag,[nGOp c],true⟩),(8,⟨1,zaD,List.map nStr ws,false⟩),(22,⟨2,zae,tsA W,true⟩)]⟩=(some ⟨[(1,AV.fp (nGOp o)),(5,AV.loc 5 31 0 0),(7,AV.row 22 2 0 (slotsC W).length),(8,AV.row 8 1 0 (List.length (List.map nStr ws))),(28,AV.sl 2 fs),(29,I (↑fs.length:Int)),(30,I 0)],[(5,⟨31,zag,[nGOp c],true⟩),(8,⟨1,zaD,List.map nStr ws,false⟩),(22,⟨2,zae,tsA W,true⟩)]⟩):=by rcases lt12 hW with rfl | rfl | rfl | rfl | rfl | rfl | rfl | rfl | rfl | rfl | rfl | rfl <;> kernel_rfl
theorem fm8 (o:GOp) (c:GOp) (fs:List (List AV)) (W:Nat) (hW:W < 12) (ws:List ByteArray) (n:Int) (i:Int):tReg zan zT 8 ⟨[(1,AV.fp (nGOp o)),(5,AV.loc 5 31 0 0),(7,AV.row 22 2 0 (slotsC W).length),(8,AV.row 8 1 0 (List.length (List.map nStr ws))),(28,AV.sl 2 fs),(29,I n),(30,I i)],[(5,⟨31,zag,[nGOp c],true⟩),(8,⟨1,zaD,List.map nStr ws,false⟩),(22,⟨2,zae,tsA W,true⟩)]⟩=(some ⟨[(1,AV.fp (nGOp o)),(5,AV.loc 5 31 0 0),(7,AV.row 22 2 0 (slotsC W).length),(8,AV.row 8 1 0 (List.length (List.map nStr ws))),(28,AV.sl 2 fs),(29,I n),(30,I i),(31,B (decide (i < n)))],[(5,⟨31,zag,[nGOp c],true⟩),(8,⟨1,zaD,List.map nStr ws,false⟩),(22,⟨2,zae,tsA W,true⟩)]⟩):=by rcases lt12 hW with rfl | rfl | rfl | rfl | rfl | rfl | rfl | rfl | rfl | rfl | rfl | rfl <;> kernel_rfl
theorem fm9l (o:GOp) (c:GOp) (fs:List (List AV)) (W:Nat) (hW:W < 12) (ws:List ByteArray) (n:Int) (i:Int) (v:List Int):tSeg zan zT 9 2 4 ⟨[(1,AV.fp (nGOp o)),(5,AV.loc 5 31 0 0),(7,AV.row 22 2 0 (slotsC W).length),(8,AV.row 8 1 0 (List.length (List.map nStr ws))),(28,AV.sl 2 fs),(29,I n),(30,I i),(32,I i),(33,AV.fp [AV.v (.pointer none),AV.fp [AV.sl 1 (List.map zad v)]])],[(5,⟨31,zag,[nGOp c],true⟩),(8,⟨1,zaD,List.map nStr ws,false⟩),(22,⟨2,zae,tsA W,true⟩)]⟩=(some ⟨[(9,I i),(10,AV.loc 10 2 0 0),(34,AV.agg [AV.v (.pointer none),AV.fp [AV.sl 1 (List.map zad v)]]),(1,AV.fp (nGOp o)),(5,AV.loc 5 31 0 0),(7,AV.row 22 2 0 (slotsC W).length),(8,AV.row 8 1 0 (List.length (List.map nStr ws))),(28,AV.sl 2 fs),(29,I n),(30,I i),(32,I i),(33,AV.fp [AV.v (.pointer none),AV.fp [AV.sl 1 (List.map zad v)]])],[(10,⟨2,zae,[[AV.v (.pointer none),AV.fp [AV.sl 1 (List.map zad v)]]],true⟩),(5,⟨31,zag,[nGOp c],true⟩),(8,⟨1,zaD,List.map nStr ws,false⟩),(22,⟨2,zae,tsA W,true⟩)]⟩):=by rcases lt12 hW with rfl | rfl | rfl | rfl | rfl | rfl | rfl | rfl | rfl | rfl | rfl | rfl <;> kernel_rfl
theorem fm9n (o:GOp) (c:GOp) (fs:List (List AV)) (W:Nat) (hW:W < 12) (ws:List ByteArray) (n:Int) (i:Int) (v:Int):tSeg zan zT 9 2 4 ⟨[(1,AV.fp (nGOp o)),(5,AV.loc 5 31 0 0),(7,AV.row 22 2 0 (slotsC W).length),(8,AV.row 8 1 0 (List.length (List.map nStr ws))),(28,AV.sl 2 fs),(29,I n),(30,I i),(32,I i),(33,AV.fp [AV.fp [I v],AV.v (.pointer none)])],[(5,⟨31,zag,[nGOp c],true⟩),(8,⟨1,zaD,List.map nStr ws,false⟩),(22,⟨2,zae,tsA W,true⟩)]⟩=(some ⟨[(9,I i),(10,AV.loc 10 2 0 0),(34,AV.agg [AV.fp [I v],AV.v (.pointer none)]),(1,AV.fp (nGOp o)),(5,AV.loc 5 31 0 0),(7,AV.row 22 2 0 (slotsC W).length),(8,AV.row 8 1 0 (List.length (List.map nStr ws))),(28,AV.sl 2 fs),(29,I n),(30,I i),(32,I i),(33,AV.fp [AV.fp [I v],AV.v (.pointer none)])],[(10,⟨2,zae,[[AV.fp [I v],AV.v (.pointer none)]],true⟩),(5,⟨31,zag,[nGOp c],true⟩),(8,⟨1,zaD,List.map nStr ws,false⟩),(22,⟨2,zae,tsA W,true⟩)]⟩):=by rcases lt12 hW with rfl | rfl | rfl | rfl | rfl | rfl | rfl | rfl | rfl | rfl | rfl | rfl <;> kernel_rfl
theorem fm16:∀ (W i:Nat) (off:Nat),(slotsC W)[i]?=some (false,off)→∀ (o c:GOp) (fs:List (List AV)) (ws:List ByteArray) (n:Int) (v:Int),tReg zan zT 16 ⟨[(1,AV.fp (nGOp o)),(5,AV.loc 5 31 0 0),(7,AV.row 22 2 0 (slotsC W).length),(8,AV.row 8 1 0 (List.length (List.map nStr ws))),(9,I i),(10,AV.loc 10 2 0 0),(28,AV.sl 2 fs),(29,I n),(30,I i)],[(5,⟨31,zag,[nGOp c],true⟩),(8,⟨1,zaD,List.map nStr ws,false⟩),(10,⟨2,zae,[[AV.fp [I v],AV.v (.pointer none)]],true⟩),(22,⟨2,zae,tsA W,true⟩)]⟩ =
  chk ((0:Int)≤(i:Nat)) (chk (((i:Nat):Int) < ((slotsC W).length:Nat)) (some ⟨[(1,AV.fp (nGOp o)),(5,AV.loc 5 31 0 0),(7,AV.row 22 2 0 (slotsC W).length),(8,AV.row 8 1 0 (List.length (List.map nStr ws))),(28,AV.sl 2 fs),(29,I n),(30,I i)],[(5,⟨31,zag,[nGOp (putN v off c)],true⟩),(8,⟨1,zaD,List.map nStr ws,false⟩),(22,⟨2,zae,tsA W,true⟩)]⟩)):=by
 intro W i off h o c fs ws n v
 have hW:W < 12:=by
  rcases Nat.lt_or_ge W 12 with q | q
  · exact q
  · rw [show slotsC W=[] from by unfold slotsC; split <;> first | omega | rfl] at h; simp at h
 rcases lt12 hW with rfl | rfl | rfl | rfl | rfl | rfl | rfl | rfl | rfl | rfl | rfl | rfl
 all_goals
  match i,h with
  | 0,h=>first | (cases h; done) | (have h1:=congrArg Prod.fst (Option.some.inj h); cases h1; done) | (have h2:=congrArg Prod.snd (Option.some.inj h); simp only at h2; subst h2; show _=_; kernel_rfl)
  | 1,h=>first | (cases h; done) | (have h1:=congrArg Prod.fst (Option.some.inj h); cases h1; done) | (have h2:=congrArg Prod.snd (Option.some.inj h); simp only at h2; subst h2; show _=_; kernel_rfl)
  | 2,h=>first | (cases h; done) | (have h1:=congrArg Prod.fst (Option.some.inj h); cases h1; done) | (have h2:=congrArg Prod.snd (Option.some.inj h); simp only at h2; subst h2; show _=_; kernel_rfl)
  | 3,h=>first | (cases h; done) | (have h1:=congrArg Prod.fst (Option.some.inj h); cases h1; done) | (have h2:=congrArg Prod.snd (Option.some.inj h); simp only at h2; subst h2; show _=_; kernel_rfl)
  | 4,h=>first | (cases h; done) | (have h1:=congrArg Prod.fst (Option.some.inj h); cases h1; done) | (have h2:=congrArg Prod.snd (Option.some.inj h); simp only at h2; subst h2; show _=_; kernel_rfl)
  | 5,h=>first | (cases h; done) | (have h1:=congrArg Prod.fst (Option.some.inj h); cases h1; done) | (have h2:=congrArg Prod.snd (Option.some.inj h); simp only at h2; subst h2; show _=_; kernel_rfl)
  | 6,h=>first | (cases h; done) | (have h1:=congrArg Prod.fst (Option.some.inj h); cases h1; done) | (have h2:=congrArg Prod.snd (Option.some.inj h); simp only at h2; subst h2; show _=_; kernel_rfl)
  | i+7,h=>cases h
theorem fm15:∀ (W i:Nat) (off:Nat),(slotsC W)[i]?=some (true,off)→∀ (o c:GOp) (fs:List (List AV)) (ws:List ByteArray) (n:Int) (v:List Int),tReg zan zT 15 ⟨[(1,AV.fp (nGOp o)),(5,AV.loc 5 31 0 0),(7,AV.row 22 2 0 (slotsC W).length),(8,AV.row 8 1 0 (List.length (List.map nStr ws))),(9,I i),(10,AV.loc 10 2 0 0),(28,AV.sl 2 fs),(29,I n),(30,I i)],[(5,⟨31,zag,[nGOp c],true⟩),(8,⟨1,zaD,List.map nStr ws,false⟩),(10,⟨2,zae,[[AV.v (.pointer none),AV.fp [AV.sl 1 (List.map zad v)]]],true⟩),(22,⟨2,zae,tsA W,true⟩)]⟩ =
  chk ((0:Int)≤(i:Nat)) (chk (((i:Nat):Int) < ((slotsC W).length:Nat)) (some ⟨[(1,AV.fp (nGOp o)),(5,AV.loc 5 31 0 0),(7,AV.row 22 2 0 (slotsC W).length),(8,AV.row 8 1 0 (List.length (List.map nStr ws))),(28,AV.sl 2 fs),(29,I n),(30,I i)],[(5,⟨31,zag,[nGOp (putL v off c)],true⟩),(8,⟨1,zaD,List.map nStr ws,false⟩),(22,⟨2,zae,tsA W,true⟩)]⟩)):=by
 intro W i off h o c fs ws n v
 have hW:W < 12:=by
  rcases Nat.lt_or_ge W 12 with q | q
  · exact q
  · rw [show slotsC W=[] from by unfold slotsC; split <;> first | omega | rfl] at h; simp at h
 rcases lt12 hW with rfl | rfl | rfl | rfl | rfl | rfl | rfl | rfl | rfl | rfl | rfl | rfl
 all_goals
  match i,h with
  | 0,h=>first | (cases h; done) | (have h1:=congrArg Prod.fst (Option.some.inj h); cases h1; done) | (have h2:=congrArg Prod.snd (Option.some.inj h); simp only at h2; subst h2; show _=_; kernel_rfl)
  | 1,h=>first | (cases h; done) | (have h1:=congrArg Prod.fst (Option.some.inj h); cases h1; done) | (have h2:=congrArg Prod.snd (Option.some.inj h); simp only at h2; subst h2; show _=_; kernel_rfl)
  | 2,h=>first | (cases h; done) | (have h1:=congrArg Prod.fst (Option.some.inj h); cases h1; done) | (have h2:=congrArg Prod.snd (Option.some.inj h); simp only at h2; subst h2; show _=_; kernel_rfl)
  | 3,h=>first | (cases h; done) | (have h1:=congrArg Prod.fst (Option.some.inj h); cases h1; done) | (have h2:=congrArg Prod.snd (Option.some.inj h); simp only at h2; subst h2; show _=_; kernel_rfl)
  | 4,h=>first | (cases h; done) | (have h1:=congrArg Prod.fst (Option.some.inj h); cases h1; done) | (have h2:=congrArg Prod.snd (Option.some.inj h); simp only at h2; subst h2; show _=_; kernel_rfl)
  | 5,h=>first | (cases h; done) | (have h1:=congrArg Prod.fst (Option.some.inj h); cases h1; done) | (have h2:=congrArg Prod.snd (Option.some.inj h); simp only at h2; subst h2; show _=_; kernel_rfl)
  | 6,h=>first | (cases h; done) | (have h1:=congrArg Prod.fst (Option.some.inj h); cases h1; done) | (have h2:=congrArg Prod.snd (Option.some.inj h); simp only at h2; subst h2; show _=_; kernel_rfl)
  | i+7,h=>cases h
end Go.Proofs.YtdclabgakicjeaaGreatDoor
namespace Go.Proofs.YtdclabgakicjeaaGreatDoor
open Go.Ab
set_option maxRecDepth 100000
abbrev nilOp:List AV:=[I 0,I 0,I 0,I 0,I 0,I 0,I 0,I 0,I 0,AV.v (.slice none 0 0),AV.v (.slice none 0 0),I 0,I 0,I 0,I 0,I 0,I 0,I 0,I 0,AV.v (.slice none 0 0),I 0,I 0,I 0,I 0,I 0,I 0,I 0,I 0,AV.v (.slice none 0 0),I 0,I 0]
def tsP (w:Nat):List (List AV):=(slotsC w).map fun p=>if p.1 then [.v (.pointer none),.loc 7 31 0 p.2] else [.loc 7 31 0 p.2,.v (.pointer none)]
theorem pz0 (s:ByteArray):tReg zar zT 0 ⟨[(0,AV.v (.string s))],[]⟩=(some ⟨[(0,AV.v (.string s)),(2,AV.loc 2 31 0 0)],[(2,⟨31,zag,[nilOp],true⟩)]⟩):=by kernel_rfl
theorem pz1 (s:ByteArray):tReg zar zT 1 ⟨[(0,AV.v (.string s)),(2,AV.loc 2 31 0 0)],[(2,⟨31,zag,[nilOp],true⟩)]⟩=(callD zcl (cw zeo [AV.v (.string s),AV.v (.string ({ data:={ toList:=[32] } }))] []) fun (r0:(List ByteArray))=>some ⟨[(2,AV.loc 2 31 0 0),(4,AV.row 11 1 0 (List.length (List.map nStr r0)))],[(2,⟨31,zag,[nilOp],true⟩),(11,⟨1,zaD,List.map nStr r0,false⟩)]⟩):=by kernel_rfl
theorem pz10 (c:GOp) (ws:List ByteArray) (W:Nat) (hW:W < 12) (n:Int) (i:Int):tReg zar zT 10 ⟨[(2,AV.loc 2 31 0 0),(4,AV.sl 1 (List.map nStr ws)),(7,AV.loc 7 31 0 0),(32,AV.row 32 2 0 (slotsC W).length),(33,I n),(34,I i)],[(2,⟨31,zag,[nilOp],true⟩),(7,⟨31,zag,[nGOp c],true⟩),(32,⟨2,zae,tsP W,true⟩)]⟩=(some ⟨[(2,AV.loc 2 31 0 0),(4,AV.sl 1 (List.map nStr ws)),(7,AV.loc 7 31 0 0),(32,AV.row 32 2 0 (slotsC W).length),(33,I n),(34,I i),(35,B (decide (i < n)))],[(2,⟨31,zag,[nilOp],true⟩),(7,⟨31,zag,[nGOp c],true⟩),(32,⟨2,zae,tsP W,true⟩)]⟩):=by rcases lt12 hW with rfl | rfl | rfl | rfl | rfl | rfl | rfl | rfl | rfl | rfl | rfl | rfl <;> kernel_rfl
theorem pz12l (c:GOp) (ws:List ByteArray) (W:Nat) (hW:W < 12) (n:Int) (i:Int) (off:Nat):tReg zar zT 12 ⟨[(2,AV.loc 2 31 0 0),(4,AV.sl 1 (List.map nStr ws)),(7,AV.loc 7 31 0 0),(8,I i),(9,AV.loc 9 2 0 0),(32,AV.row 32 2 0 (slotsC W).length),(33,I n),(34,I i)],[(2,⟨31,zag,[nilOp],true⟩),(7,⟨31,zag,[nGOp c],true⟩),(9,⟨2,zae,[[AV.v (.pointer none),AV.loc 7 31 0 off]],true⟩),(32,⟨2,zae,tsP W,true⟩)]⟩=(chk ((0:Int)≤(w64 (i+1)))<|
 elemD dStr (List.map nStr ws) ((w64 (i+1)).toNat) fun (c0:ByteArray) =>
 callD zc4 (cw zcm [AV.agg [AV.v (.pointer none),AV.loc 1000 31 0 off],AV.v (.string c0)] [(1000,⟨31,zag,[nGOp c],true⟩)]) fun (r1:Bool×GOp) =>
 some ⟨[(2,AV.loc 2 31 0 0),(4,AV.sl 1 (List.map nStr ws)),(7,AV.loc 7 31 0 0),(32,AV.row 32 2 0 (slotsC W).length),(33,I n),(34,I i),(46,B (!r1.fst))],[(2,⟨31,zag,[nilOp],true⟩),(7,⟨31,zag,[nGOp r1.snd],true⟩),(32,⟨2,zae,tsP W,true⟩)]⟩):=by
 rcases lt12 hW with rfl | rfl | rfl | rfl | rfl | rfl | rfl | rfl | rfl | rfl | rfl | rfl <;> kernel_rfl
theorem pz12n (c:GOp) (ws:List ByteArray) (W:Nat) (hW:W < 12) (n:Int) (i:Int) (off:Nat):tReg zar zT 12 ⟨[(2,AV.loc 2 31 0 0),(4,AV.sl 1 (List.map nStr ws)),(7,AV.loc 7 31 0 0),(8,I i),(9,AV.loc 9 2 0 0),(32,AV.row 32 2 0 (slotsC W).length),(33,I n),(34,I i)],[(2,⟨31,zag,[nilOp],true⟩),(7,⟨31,zag,[nGOp c],true⟩),(9,⟨2,zae,[[AV.loc 7 31 0 off,AV.v (.pointer none)]],true⟩),(32,⟨2,zae,tsP W,true⟩)]⟩=(chk ((0:Int)≤(w64 (i+1)))<|
 elemD dStr (List.map nStr ws) ((w64 (i+1)).toNat) fun (c0:ByteArray) =>
 callD zc4 (cw zcm [AV.agg [AV.loc 1000 31 0 off,AV.v (.pointer none)],AV.v (.string c0)] [(1000,⟨31,zag,[nGOp c],true⟩)]) fun (r1:Bool×GOp) =>
 some ⟨[(2,AV.loc 2 31 0 0),(4,AV.sl 1 (List.map nStr ws)),(7,AV.loc 7 31 0 0),(32,AV.row 32 2 0 (slotsC W).length),(33,I n),(34,I i),(46,B (!r1.fst))],[(2,⟨31,zag,[nilOp],true⟩),(7,⟨31,zag,[nGOp r1.snd],true⟩),(32,⟨2,zae,tsP W,true⟩)]⟩):=by
 rcases lt12 hW with rfl | rfl | rfl | rfl | rfl | rfl | rfl | rfl | rfl | rfl | rfl | rfl <;> kernel_rfl
theorem pz13:tReg zar zT 13 ⟨[(2,AV.loc 2 31 0 0)],[(2,⟨31,zag,[nilOp],true⟩)]⟩=(some ⟨[(2,AV.loc 2 31 0 0),(3,I 7)],[(2,⟨31,zag,[nilOp],true⟩)]⟩):=by kernel_rfl
theorem pz14 (c:GOp) (ws:List ByteArray) (W:Nat) (hW:W < 12) (n:Int) (i:Int):tReg zar zT 14 ⟨[(2,AV.loc 2 31 0 0),(4,AV.sl 1 (List.map nStr ws)),(7,AV.loc 7 31 0 0),(32,AV.row 32 2 0 (slotsC W).length),(33,I n),(34,I i)],[(2,⟨31,zag,[nilOp],true⟩),(7,⟨31,zag,[nGOp c],true⟩),(32,⟨2,zae,tsP W,true⟩)]⟩=(some ⟨[(2,AV.loc 2 31 0 0),(4,AV.sl 1 (List.map nStr ws)),(7,AV.loc 7 31 0 0),(32,AV.row 32 2 0 (slotsC W).length),(33,I n),(34,I (w64 (i+1)))],[(2,⟨31,zag,[nilOp],true⟩),(7,⟨31,zag,[nGOp c],true⟩),(32,⟨2,zae,tsP W,true⟩)]⟩):=by rcases lt12 hW with rfl | rfl | rfl | rfl | rfl | rfl | rfl | rfl | rfl | rfl | rfl | rfl <;> kernel_rfl
theorem pz15 (c:GOp):tReg zar zT 15 ⟨[(2,AV.loc 2 31 0 0),(7,AV.loc 7 31 0 0)],[(2,⟨31,zag,[nilOp],true⟩),(7,⟨31,zag,[nGOp c],true⟩)]⟩=(some ⟨[(2,AV.loc 2 31 0 0),(3,I 0)],[(2,⟨31,zag,[nGOp c],true⟩)]⟩):=by kernel_rfl
theorem pz16 (ws:List ByteArray) (i:Int):tReg zar zT 16 ⟨[(2,AV.loc 2 31 0 0),(4,AV.sl 1 (List.map nStr ws)),(12,AV.agg (zbl.map AV.v)),(13,I i)],[(2,⟨31,zag,[nilOp],true⟩)]⟩=(some ⟨[(2,AV.loc 2 31 0 0),(4,AV.sl 1 (List.map nStr ws)),(12,AV.agg (zbl.map AV.v)),(13,I (w64 (i+1)))],[(2,⟨31,zag,[nilOp],true⟩)]⟩):=by kernel_rfl
theorem pz17:tReg zar zT 17 ⟨[(2,AV.loc 2 31 0 0)],[(2,⟨31,zag,[nilOp],true⟩)]⟩=(some ⟨[(2,AV.loc 2 31 0 0),(3,I 7)],[(2,⟨31,zag,[nilOp],true⟩)]⟩):=by kernel_rfl
theorem pz3 (ws:List ByteArray) (i:Int):tReg zar zT 3 ⟨[(2,AV.loc 2 31 0 0),(4,AV.sl 1 (List.map nStr ws)),(12,AV.agg (zbl.map AV.v)),(13,I i)],[(2,⟨31,zag,[nilOp],true⟩)]⟩=(some ⟨[(2,AV.loc 2 31 0 0),(4,AV.sl 1 (List.map nStr ws)),(12,AV.agg (zbl.map AV.v)),(13,I i),(14,B (decide (i < 12)))],[(2,⟨31,zag,[nilOp],true⟩)]⟩):=by kernel_rfl
theorem pz5 (ws:List ByteArray) (i:Int) (s:ByteArray) (n:Int):tReg zar zT 5 ⟨[(2,AV.loc 2 31 0 0),(4,AV.sl 1 (List.map nStr ws)),(5,I i),(6,AV.loc 6 2 0 0),(12,AV.agg (zbl.map AV.v)),(13,I i)],[(2,⟨31,zag,[nilOp],true⟩),(6,⟨2,zeC,[zcw (⟨s,n⟩)],true⟩)]⟩=(chk ((0:Int)≤0)<|
 elemD dStr (List.map nStr ws) (Int.toNat 0) fun (c0:ByteArray) =>
 some ⟨[(2,AV.loc 2 31 0 0),(4,AV.sl 1 (List.map nStr ws)),(5,I i),(6,AV.loc 6 2 0 0),(12,AV.agg (zbl.map AV.v)),(13,I i),(22,B (!s == c0))],[(2,⟨31,zag,[nilOp],true⟩),(6,⟨2,zeC,[zcw (⟨s,n⟩)],true⟩)]⟩):=by kernel_rfl
theorem pz6 (ws:List ByteArray) (i:Int) (s:ByteArray) (n:Int):tReg zar zT 6 ⟨[(2,AV.loc 2 31 0 0),(4,AV.sl 1 (List.map nStr ws)),(5,I i),(6,AV.loc 6 2 0 0)],[(2,⟨31,zag,[nilOp],true⟩),(6,⟨2,zeC,[zcw (⟨s,n⟩)],true⟩)]⟩=(some ⟨[(2,AV.loc 2 31 0 0),(4,AV.sl 1 (List.map nStr ws)),(5,I i),(27,B ((↑(List.map nStr ws).length:Int) != n))],[(2,⟨31,zag,[nilOp],true⟩)]⟩):=by kernel_rfl
theorem pz7:tReg zar zT 7 ⟨[(2,AV.loc 2 31 0 0)],[(2,⟨31,zag,[nilOp],true⟩)]⟩=(some ⟨[(2,AV.loc 2 31 0 0),(3,I 7)],[(2,⟨31,zag,[nilOp],true⟩)]⟩):=by kernel_rfl
theorem pz8 (ws:List ByteArray) (i:Int):tReg zar zT 8 ⟨[(2,AV.loc 2 31 0 0),(4,AV.sl 1 (List.map nStr ws)),(5,I i)],[(2,⟨31,zag,[nilOp],true⟩)]⟩=(callD zck (cw zek [I i] []) fun (r0:GOp)=>some ⟨[(2,AV.loc 2 31 0 0),(4,AV.sl 1 (List.map nStr ws)),(5,I i),(7,AV.loc 7 31 0 0)],[(2,⟨31,zag,[nilOp],true⟩),(7,⟨31,zag,[nGOp r0],true⟩)]⟩):=by kernel_rfl
theorem pz4 (W:Nat) (hW:W < 12) (ws:List ByteArray):tReg zar zT 4 ⟨[(2,AV.loc 2 31 0 0),(4,AV.sl 1 (List.map nStr ws)),(12,AV.agg (zbl.map AV.v)),(13,I W)],[(2,⟨31,zag,[nilOp],true⟩)]⟩ =
  chk ((0:Int)≤(W:Nat)) (chk (((W:Nat):Int) < ((12:Nat):Int)) (elemD zhd (List.map zcw (formsT.map fun p=>⟨tx p.1,p.2⟩)) ((W:Nat):Int).toNat fun (c0:zcq) =>
  some ⟨[(2,AV.loc 2 31 0 0),(4,AV.sl 1 (List.map nStr ws)),(5,I W),(6,AV.loc 6 2 0 0),(12,AV.agg (zbl.map AV.v)),(13,I W)],[(2,⟨31,zag,[nilOp],true⟩),(6,⟨2,zeC,[zcw c0],true⟩)]⟩)):=by
 rcases lt12 hW with rfl | rfl | rfl | rfl | rfl | rfl | rfl | rfl | rfl | rfl | rfl | rfl <;> kernel_rfl
theorem pz11:∀ (W i:Nat) (p:Bool×Nat),(slotsC W)[i]?=some p→∀ (c:GOp) (ws:List ByteArray) (n:Int),tReg zar zT 11 ⟨[(2,AV.loc 2 31 0 0),(4,AV.sl 1 (List.map nStr ws)),(7,AV.loc 7 31 0 0),(32,AV.row 32 2 0 (slotsC W).length),(33,I n),(34,I i)],[(2,⟨31,zag,[nilOp],true⟩),(7,⟨31,zag,[nGOp c],true⟩),(32,⟨2,zae,tsP W,true⟩)]⟩ =
  chk ((0:Int)≤(i:Nat)) (chk (((i:Nat):Int) < ((slotsC W).length:Nat)) (some ⟨[(2,AV.loc 2 31 0 0),(4,AV.sl 1 (List.map nStr ws)),(7,AV.loc 7 31 0 0),(8,I i),(9,AV.loc 9 2 0 0),(32,AV.row 32 2 0 (slotsC W).length),(33,I n),(34,I i)],[(2,⟨31,zag,[nilOp],true⟩),(7,⟨31,zag,[nGOp c],true⟩),(9,⟨2,zae,[if p.1 then [AV.v (.pointer none),AV.loc 7 31 0 p.2] else [AV.loc 7 31 0 p.2,AV.v (.pointer none)]],true⟩),(32,⟨2,zae,tsP W,true⟩)]⟩)):=by
 intro W i p h c ws n
 have hW:W < 12:=by
  rcases Nat.lt_or_ge W 12 with q | q
  · exact q
  · rw [show slotsC W=[] from by unfold slotsC; split <;> first | omega | rfl] at h; simp at h
 rcases lt12 hW with rfl | rfl | rfl | rfl | rfl | rfl | rfl | rfl | rfl | rfl | rfl | rfl
 all_goals
  match i,h with
  | 0,h=>first | (cases h; done) | (injection h with h; subst h; show _=_; kernel_rfl)
  | 1,h=>first | (cases h; done) | (injection h with h; subst h; show _=_; kernel_rfl)
  | 2,h=>first | (cases h; done) | (injection h with h; subst h; show _=_; kernel_rfl)
  | 3,h=>first | (cases h; done) | (injection h with h; subst h; show _=_; kernel_rfl)
  | 4,h=>first | (cases h; done) | (injection h with h; subst h; show _=_; kernel_rfl)
  | 5,h=>first | (cases h; done) | (injection h with h; subst h; show _=_; kernel_rfl)
  | 6,h=>first | (cases h; done) | (injection h with h; subst h; show _=_; kernel_rfl)
  | i+7,h=>cases h
end Go.Proofs.YtdclabgakicjeaaGreatDoor
namespace Go.Ab
open Go.RowKit
variable [Dr]
section
variable {w0:World} {S0:Nat→Prop} {κ0:Kap} {K:Nat→Prop} {N:Nat} {S S':Nat→Prop} {κ κ':Kap} {a:Act} {w w':World} {st st':St} {t:Tab} {m:Mem}
theorem index_op {P:Program} {ops:Array Oper} {Q:Exit→Act→World→Prop} {i d s x z:Nat} {t e:TypeId} {q:IntKind} {n:Int} {es:List (List AV)} {cs:List AV} {X:Sat2} {K':Act→World→Prop}
  (ho:opIs ops i d (.indexAddr t (.tmp s) (.tmp x))) (ht:P.underlying t=some (.slice e)) (hz:szB P e=some z) (hd:d < N) (h:NowP w0 S0 κ0 K N X st a w) (hs:get st.t s=.sl z es) (hx:get st.t x=.v (.int q n))
  (h0:0≤n) (hc:es[n.toNat]?=some cs) (hK:∀ a',NowP w0 S0 κ0 K N X { st with t:=(d,.fp cs) :: st.t } a' w→K' a' w):wpOp P ops Q i K' a w:=by
 obtain ⟨S,κ,h1,h2⟩:=h; obtain ⟨o,o1,o2,o3,o4⟩:=ho.get; have hvs:=h1.slots s; have hvx:=h1.slots x; rw [hs] at hvs; rw [hx] at hvx
 have hi:aIndex P t (.sl z es) (.v (.int q n))=some { val:=.fp cs }:=by unfold aIndex; simp only [ht,hz,h0,hc,and_self,if_true]
 obtain ⟨y,e1,e2,_⟩:=zj8 (w:=w) hi hvs hvx; refine zjX (w':=w) (y:=y) o1 o4 ?_ ?_
 · have:(Instr.indexAt t (a.eval (.tmp s)) (a.eval (.tmp x))).run P w=.ok y w:=e1; simp [execOp,o3,this]
 · rw [o2]; exact hK _ ⟨S,κ,h1.put hd _ _ e2,h2⟩
theorem GoodS.reent (h:GoodS w0 S0 κ0 K N S κ ⟨t,m⟩ a w) {B:Nat} {ent ent':Ent} (hB:look m B=some ent) (hE:EntAt S κ (fun b=>(look m b).isSome=true) w (κ B) ent'):GoodS w0 S0 κ0 K N S κ ⟨t,repM (B,ent') m⟩ a w:=by
 have hlook:∀ c,look (repM (B,ent') m) c=if c=B then some ent' else look m c:=fun c=>ziZ (B,ent') m c (by simp [hB])
 have hD:(fun b=>(look (repM (B,ent') m) b).isSome=true)=fun b=>(look m b).isSome=true:=by
  funext b; rw [hlook]; by_cases hb:b=B
  · subst hb; simp [hB]
  · simp [hb]
 have hD':∀ b,(look (repM (B,ent') m) b).isSome=true→(look m b).isSome=true:=fun b hb=>by have:=congrFun hD b; exact this.mp hb
 exact { h with
  parK:=fun b hb hl=>h.parK b hb (hD' b hl)
  own:=fun b g c hb hl hk=>h.own b g c hb (hD' b hl) hk
  inj:=fun b b' g c c' hl hl' hk hk'=>h.inj b b' g c c' (hD' b hl) (hD' b' hl') hk hk'
  ents:=fun b e hb=>by
   show EntAt S κ (fun b=>(look (repM (B,ent') m) b).isSome=true) w (κ b) e; rw [hD]; have hb':look (repM (B,ent') m) b=some e:=hb; rw [hlook] at hb'; split at hb'
   · rename_i hbB; subst hbB; injection hb' with hb'; subst hb'; exact hE
   · exact h.ents b e hb'
  slots:=fun k=>by
   show VRel S κ (fun b=>(look (repM (B,ent') m) b).isSome=true) w _ _; rw [hD]
   exact h.slots k }
theorem EntAt.boxed {D:Nat→Prop} {kb:Option (Nat×Nat)} {z:Nat} {e:TypeId} {es es':List (List AV)} {κ':Kap} {D':Nat→Prop} (h:EntAt S κ D w kb ⟨z,e,es,false⟩) (hz:0 < z) (hne:es≠[]) (hlen:es'.length=es.length) (hrow:∀ cs∈es',cs.length=z)
  (hp:∀ (i j:Nat) (cs cs':List AV) (a':AV),es[i]?=some cs→es'[i]?=some cs'→cs'[j]?=some a'→∃ a,cs[j]?=some a∧∀ u,CRel S w a u→VRel S κ' D' w a' u):EntAt S κ' D' w kb ⟨z,e,es',true⟩:=by
 obtain ⟨h1,h2⟩:=h.1 (.inr hz); refine EntAt.of (.inl rfl) ⟨hrow,?_⟩
 cases kb with
 | none=>exact absurd h2.1 hne
 | some gc =>
   obtain ⟨g,c⟩:=gc; obtain ⟨cells,c1,c2,c3,c4,c5,c6⟩:=h2; refine ⟨cells,c1,c2,by rw [hlen]; exact c3,c4,c5,fun i j cs' a' hi hj=>?_⟩; have hil:i < es.length:=by rw [← hlen]; exact (List.getElem?_eq_some_iff.1 hi).1
   obtain ⟨x,hx,hr⟩:=hp i j _ cs' a' (List.getElem?_eq_getElem hil) hi hj; obtain ⟨u,u1,u2,_,u4⟩:=c6 i j _ x (List.getElem?_eq_getElem hil) hx; exact ⟨u,u1,u2,fun _=>hr u (u4 rfl),fun hb=>by cases hb⟩
theorem CRel.view {z:Nat} {es es':List (List AV)} {v:Value} (h:CRel S w (.sl z es) v) (hlen:es'.length=es.length) (hrow:∀ cs∈es',cs.length=z)
  (hp:∀ (i j:Nat) (cs cs':List AV) (a':AV),es[i]?=some cs→es'[i]?=some cs'→cs'[j]?=some a'→∃ a,cs[j]?=some a∧∀ u,CRel S w a u→CRel S w a' u):CRel S w (.sl z es') v:=by
 cases h with
 | sl _ _ A len cap u h1 h2 h3 h4 h5 =>
   have hat:∀ (i j:Nat) (cs':List AV) (a':AV),es'[i]?=some cs'→cs'[j]?=some a'→∃ cs a,es[i]?=some cs∧cs[j]?=some a∧∀ u,CRel S w a u→CRel S w a' u:=fun i j cs' a' hi hj=>by
    have hil:i < es.length:=by rw [← hlen]; exact (List.getElem?_eq_some_iff.1 hi).1
    obtain ⟨x,hx,hr⟩:=hp i j _ cs' a' (List.getElem?_eq_getElem hil) hi hj; exact ⟨_,x,List.getElem?_eq_getElem hil,hx,hr⟩
   refine .sl z es' A len cap u (by rw [hlen]; exact h1) h2 hrow ?_ (fun i j cs' a' hi hj=>?_)
   · rcases h4 with h4 | ⟨ad,e1,e2,e3⟩
     · left; subst h4; exact List.eq_nil_of_length_eq_zero (by simpa using hlen)
     · exact .inr ⟨ad,e1,e2,fun i j cs' a' hi hj=>by
        obtain ⟨cs,x,q1,q2,_⟩:=hat i j cs' a' hi hj
        exact e3 i j cs x q1 q2⟩
   · obtain ⟨cs,x,q1,q2,q3⟩:=hat i j cs' a' hi hj; exact q3 _ (h5 i j cs x q1 q2)
theorem CRel.cell {cs:List AV} {g k:Nat} {x:AV} (h:CRel S w (.fp cs) (.pointer (some ⟨g,0,none⟩))) (hx:cs[k]?=some x):CRel S w (.fp [x]) (.pointer (some ⟨g,k,none⟩)):=by
 cases h with
 | fp _ _ u hS hc hr =>
   refine .fp _ _ (fun _=>u k) hS (fun j c hj=>?_) (fun j c hj=>?_)
   · match j,hj with
     | 0,hj =>
       have:=hc k x hx; rw [show (⟨g,k,none⟩:Addr).add 0=⟨g,k,none⟩ from rfl]
       rwa [add_at,Nat.zero_add] at this
     | j+1,hj=>simp at hj
   · match j,hj with
     | 0,hj=>injection hj with hj; subst hj; exact hr k x hx
     | j+1,hj=>simp at hj
theorem Stable.both {X Y:Sat2} (hX:Stable X) (hY:Stable Y):Stable fun S κ L w=>X S κ L w∧Y S κ L w:=
 ⟨fun h h1 h2 h3=>⟨hX.step h.1 h1 h2 h3,hY.step h.2 h1 h2 h3⟩,fun h h1=>⟨hX.kap h.1 h1,hY.kap h.2 h1⟩⟩
theorem Stable.lasts (cs:AV) (v:Value):Stable fun S _ _ w=>CRel S w cs v:=
 ⟨fun h h1 _ h3=>h.mono h1 h3,fun h _=>h⟩
def Away (w0:World) (κ0:Kap) (K:Nat→Prop) (B:Nat) (e:Ent) (g:Nat) (κd:Kap):Sat2:=fun S κ L w=>FarObj S w κd (look [(B,e)])∧Far S κ L w g∧Mine w0 κ0 K g
theorem zkx {B:Nat} {e:Ent} {b:Nat} (h:(look [(B,e)] b).isSome=true):b=B:=by
 simp only [look] at h; split at h
 · assumption
 · cases h
theorem Away.stable {B:Nat} {e:Ent} {g c:Nat} {κd:Kap} (hk:κd B=some (g,c)):Stable (Away w0 κ0 K B e g κd):=by
 refine ⟨fun h h1 h2 h3=>?_,fun h h1=>⟨h.1,⟨h.2.1.1,h.2.1.2.1,fun b c' hl hb=>?_⟩,h.2.2⟩⟩
 · obtain ⟨q1,q2⟩:=h2 g h.2.1; refine ⟨h.1.mono h1 h3 (fun b g' c' hl hb=>?_),q2,h.2.2⟩; rw [zkx hl,hk] at hb; injection hb with hb; injection hb with hb _; subst hb; exact ⟨q1,q2.2.1⟩
 · obtain ⟨b0,c0,e1,e2⟩:=h1 b g c' hl hb; exact h.2.1.2.2 b0 c0 e1 e2
theorem NowP.leave {B z k:Nat} {e:Ent} (h:NowP w0 S0 κ0 K N (fun _ _ _ _=>True) st a w) (hB:look st.m B=some e) (hB2:B < 1000) (ho:onlyM [(B,e)]=true) (hk:get st.t k=.loc B z 0 0):∃ g c κd,κd B=some (g,c)∧a.tmps.getD k undef=.pointer (some ⟨g,0,none⟩)∧NowP w0 S0 κ0 K N (Away w0 κ0 K B e g κd) (del B st) a w:=by
 obtain ⟨S,κ,h1,_⟩:=h; have hv:=h1.slots k; rw [hk] at hv; obtain ⟨g,c,hd,hκ,e1⟩:=hv.loc_inv
 have hd1:∀ b ent,look [(B,e)] b=some ent→look st.m b=some ent:=fun b ent hb=>by have:=zkx (B:=B) (e:=e) (b:=b) (by simp [hb]); subst this; simp only [look,if_true] at hb; rw [hB]; exact hb
 have hlook:∀ b,look (del B st).m b=killL B (look st.m) b:=fun b=>zdn B st.m b
 have hL:∀ b,(look (del B st).m b).isSome=true→(look st.m b).isSome=true∧¬ (look [(B,e)] b).isSome=true:=fun b hb=>by
  rw [hlook] at hb; unfold killL at hb; split at hb
  · cases hb
  · rename_i hne; refine ⟨?_,fun q=>hne (zkx q)⟩
    cases hq:look st.m b with
    | none=>rw [hq] at hb; cases hb
    | some _=>rfl
 have hfar:=(h1:Good w0 S0 κ0 K N S κ (get st.t) (look st.m) a w).thingFar hd1 hL B g c (by simp [look]) hκ; refine ⟨g,c,κ,hκ,?_,S,κ,h1.del B,(h1:Good w0 S0 κ0 K N S κ (get st.t) (look st.m) a w).thing hd1 (ztO ho),hfar.1,hfar.2 hB2⟩; rw [e1]; simp
theorem NowP.back {B g c:Nat} {e:Ent} {κd:Kap} {X:Sat2} (h:NowP w0 S0 κ0 K N (fun S κ L w=>Away w0 κ0 K B e g κd S κ L w∧X S κ L w) st a w) (hk:κd B=some (g,c)) (hB2:B < 1000) (hn:look st.m B=none):∃ S κ,GoodS w0 S0 κ0 K N S κ ⟨st.t,(B,e) :: st.m⟩ a w∧κ B=some (g,c)∧∃ κ1,X S κ1 (look st.m) w:=by
 obtain ⟨S,κ,h1,h2,h3⟩:=h
 have hg:=GoodS.focus (t:=st.t) (m:=st.m) (md:=[(B,e)]) h1 h2.1 (fun b hb=>by rw [zkx hb]; exact ⟨hB2,hn⟩) (fun b g' c' hb hkb=>by
  rw [zkx hb,hk] at hkb; injection hkb with hkb; injection hkb with e1 _; subst e1
  exact ⟨h2.2.1,h2.2.2⟩)
 refine ⟨S,_,hg,?_,κ,h3⟩; unfold overK; rw [if_pos (by simp [look])]; exact hk
end
end Go.Ab
namespace Go.Proofs.YtdclabgakicjeaaGreatDoor
open Go.Ab Go.Str
set_option maxRecDepth 100000
def fmC:Code:=(zan.fn.body).getD .skip
def fmO (j:Nat):Array Oper:=opsAt j fmC
def fmD (j:Nat):Bool:=zlJ j fmC
theorem fm_hb:zan.fn.body=some fmC:=by kernel_rfl
theorem fm_shape:fmC=(.seq (.region 0 (fmO 0) (fmD 0)) (.seq (.region 1 (fmO 1) (fmD 1)) (.seq (.seq (.region 2 (fmO 2) (fmD 2)) (.cond (.tmp 16) (.seq (.region 3 (fmO 3) (fmD 3)) .ret) .skip)) (.seq (.region 4 (fmO 4) (fmD 4)) (.seq (.region 5 (fmO 5) false) (.seq (.region 6 (fmO 6) false) (.seq (.seq (.region 7 (fmO 7) (fmD 7)) (.block 0 (.loop (.seq (.region 8 (fmO 8) (fmD 8)) (.seq (.cond (.tmp 31) .skip (.exit 0)) (.seq (.block 1 (.seq (.region 9 (fmO 9) false) (.seq (.region 10 (fmO 10) (fmD 10)) (.seq (.seq (.region 11 (fmO 11) (fmD 11)) (.cond (.tmp 41) (.seq (.region 12 (fmO 12) (fmD 12)) .ret) .skip)) (.seq (.region 13 (fmO 13) (fmD 13)) (.seq (.region 14 (fmO 14) (fmD 14)) (.cond (.tmp 48) (.region 15 (fmO 15) (fmD 15)) (.region 16 (fmO 16) (fmD 16))))))))) (.region 17 (fmO 17) (fmD 17)))))))) (.seq (.seq (.region 18 (fmO 18) (fmD 18)) (.cond (.tmp 73) (.seq (.region 19 (fmO 19) (fmD 19)) .ret) .skip)) (.seq (.region 20 (fmO 20) (fmD 20)) .ret))))))))):=by kernel_rfl
theorem fm_r0:regOf 0 fmC=some (.region 0 (fmO 0) (fmD 0)):=by kernel_rfl
theorem fm_r1:regOf 1 fmC=some (.region 1 (fmO 1) (fmD 1)):=by kernel_rfl
theorem fm_r2:regOf 2 fmC=some (.region 2 (fmO 2) (fmD 2)):=by kernel_rfl
theorem fm_r3:regOf 3 fmC=some (.region 3 (fmO 3) (fmD 3)):=by kernel_rfl
theorem fm_r4:regOf 4 fmC=some (.region 4 (fmO 4) (fmD 4)):=by kernel_rfl
theorem fm_r5:regOf 5 fmC=some (.region 5 (fmO 5) false):=by kernel_rfl
theorem fm_r6:regOf 6 fmC=some (.region 6 (fmO 6) false):=by kernel_rfl
theorem fm_r7:regOf 7 fmC=some (.region 7 (fmO 7) (fmD 7)):=by kernel_rfl
theorem fm_r8:regOf 8 fmC=some (.region 8 (fmO 8) (fmD 8)):=by kernel_rfl
theorem fm_r9:regOf 9 fmC=some (.region 9 (fmO 9) false):=by kernel_rfl
theorem fm_r10:regOf 10 fmC=some (.region 10 (fmO 10) (fmD 10)):=by kernel_rfl
theorem fm_r11:regOf 11 fmC=some (.region 11 (fmO 11) (fmD 11)):=by kernel_rfl
theorem fm_r12:regOf 12 fmC=some (.region 12 (fmO 12) (fmD 12)):=by kernel_rfl
theorem fm_r13:regOf 13 fmC=some (.region 13 (fmO 13) (fmD 13)):=by kernel_rfl
theorem fm_r14:regOf 14 fmC=some (.region 14 (fmO 14) (fmD 14)):=by kernel_rfl
theorem fm_r15:regOf 15 fmC=some (.region 15 (fmO 15) (fmD 15)):=by kernel_rfl
theorem fm_r16:regOf 16 fmC=some (.region 16 (fmO 16) (fmD 16)):=by kernel_rfl
theorem fm_r17:regOf 17 fmC=some (.region 17 (fmO 17) (fmD 17)):=by kernel_rfl
theorem fm_r18:regOf 18 fmC=some (.region 18 (fmO 18) (fmD 18)):=by kernel_rfl
theorem fm_r19:regOf 19 fmC=some (.region 19 (fmO 19) (fmD 19)):=by kernel_rfl
theorem fm_r20:regOf 20 fmC=some (.region 20 (fmO 20) (fmD 20)):=by kernel_rfl
theorem fm_n:zan.fn.ntmps≤1000:=by decide
theorem fm_enters:enters zan.P zb5=true:=by kernel_rfl
def fsA (w:Nat) (o:GOp):List (List AV):=(slotsC w).map fun p=>if p.1 then [.v (.pointer none),.fp [.sl 1 (List.map zad (getL p.2 o))]] else [.fp [I (getN p.2 o)],.v (.pointer none)]
abbrev stF (o c:GOp) (W:Nat) (ws:List ByteArray) (i:Int):St:=⟨[(1,AV.fp (nGOp o)),(5,AV.loc 5 31 0 0),(7,AV.row 22 2 0 (slotsC W).length),(8,AV.row 8 1 0 (List.length (List.map nStr ws))),(28,AV.sl 2 (fsA W o)),(29,I (slotsC W).length),(30,I i)],[(5,⟨31,zag,[nGOp c],true⟩),(8,⟨1,zaD,List.map nStr ws,false⟩),(22,⟨2,zae,tsA W,true⟩)]⟩
abbrev stBad:St:=⟨[(2,.v (.string (tx []))),(3,I 1)],[]⟩
abbrev X0:Sat2:=fun _ _ _ _=>True
theorem fm12:tReg zan zT 12 ⟨[],[]⟩=some stBad:=by kernel_rfl
section
variable {w0:World} {S0:Nat→Prop} {κ0:Kap} {K:Nat→Prop} {a:Act} {w:World}
theorem fmStep {j:Nat} {st st':St} (hr:regOf j fmC=some (.region j (fmO j) (fmD j))) (ht:tReg zan zT j st=some st')
  (h:NowP w0 S0 κ0 K zan.fn.ntmps X0 st a w) {Q:Exit→Act→World→Prop} (hQ:∀ a' w',NowP w0 S0 κ0 K zan.fn.ntmps X0 st' a' w'→Q .normal a' w'):(Code.region j (fmO j) (fmD j)).wp zan.P Q a w:=stepP Stable.none fm_hb fm_n hr ht h hQ
theorem fm9_0 (o c:GOp) (W:Nat) (hW:W < 12) (ws:List ByteArray) (i:Int):tSeg zan zT 9 0 1 (stF o c W ws i)=some ⟨(32,I i) :: (stF o c W ws i).t,(stF o c W ws i).m⟩:=by rcases lt12 hW with rfl | rfl | rfl | rfl | rfl | rfl | rfl | rfl | rfl | rfl | rfl | rfl <;> kernel_rfl
abbrev fmBody:Code:=.seq (.region 9 (fmO 9) false) (.seq (.region 10 (fmO 10) (fmD 10)) (.seq (.seq (.region 11 (fmO 11) (fmD 11)) (.cond (.tmp 41) (.seq (.region 12 (fmO 12) (fmD 12)) .ret) .skip)) (.seq (.region 13 (fmO 13) (fmD 13)) (.seq (.region 14 (fmO 14) (fmD 14)) (.cond (.tmp 48) (.region 15 (fmO 15) (fmD 15)) (.region 16 (fmO 16) (fmD 16)))))))
theorem map_str (ws:List ByteArray) (s:ByteArray):List.map nStr ws++[[AV.v (.string s)]]=List.map nStr (ws++[s]):=by simp [nStr]
theorem map_str2 (ws:List ByteArray) (s:ByteArray):List.map nStr ws++[nStr s]=List.map nStr (ws++[s]):=by simp
theorem fm_round (o c:GOp) (W:Nat) (hW:W < 12) (ws:List ByteArray) (i:Nat) (hws:ws.length < 1000) (p:Bool×Nat) (hp:(slotsC W)[i]?=some p)
  (hN:p.1=false→W64 (getN p.2 o)) (hL:p.1=true→(getL p.2 o).length≤1000∧∀ n∈getL p.2 o,W64 n)
  (h:NowP w0 S0 κ0 K zan.fn.ntmps X0 (stF o c W ws i) a w) {Q:Exit→Act→World→Prop}
  (hok:okW o p→∀ a' w',NowP w0 S0 κ0 K zan.fn.ntmps X0 (stF o (copy1 o c p) W (ws++[tx (wordC o p)]) i) a' w'→Q .normal a' w')
  (hbad:¬ okW o p→∀ a' w',NowP w0 S0 κ0 K zan.fn.ntmps X0 stBad a' w'→Q .ret a' w'):fmBody.wp zan.P Q a w:=by
 have hil:i < (slotsC W).length:=(List.getElem?_eq_some_iff.1 hp).1; have hi2:((i:Nat):Int).toNat=i:=rfl; obtain ⟨pl,off⟩:=p; refine wp_seq (wp_region ?_); have z9:(fmO 9).size=6:=by kernel_rfl
 rw [z9,show List.range 6=List.range' 0 1++(1 :: (List.range' 2 4++[])) from rfl]; refine segP Stable.none fm_hb fm_n fm_r9 (fm9_0 o c W hW ws i) (by rw [z9]; decide) h (fun a1 w1 h1=>?_); rw [wpOps_cons]
 cases pl with
 | false =>
   have hf:(fsA W o)[((i:Nat):Int).toNat]?=some [.fp [I (getN off o)],.v (.pointer none)]:=by unfold fsA; rw [hi2,List.getElem?_map,hp]; rfl
   refine index_op (t:=zjI) (e:=zae) (z:=2) (s:=28) (x:=30) (d:=33) (by unfold opIs; kernel_rfl) (by kernel_rfl) (by kernel_rfl) (by decide) h1 rfl rfl (by omega) hf (fun a2 h2=>?_); have h3:=h2.trim Stable.none [1,5,7,8,28,29,30,32,33] [] (by kernel_rfl) (st':=⟨[(1,AV.fp (nGOp o)),(5,AV.loc 5 31 0 0),(7,AV.row 22 2 0 (slotsC W).length),(8,AV.row 8 1 0 (List.length (List.map nStr ws))),(28,AV.sl 2 (fsA W o)),(29,I (slotsC W).length),(30,I i),(32,I i),(33,AV.fp [AV.fp [I (getN off o)],AV.v (.pointer none)])],(stF o c W ws i).m⟩); refine segP Stable.none fm_hb fm_n fm_r9 (fm9n o c (fsA W o) W hW ws (slotsC W).length i (getN off o)) (by rw [z9]; decide) h3 (fun a4 w4 h4=>?_); have h5:=h4.trim Stable.none [1,5,7,8,9,10,28,29,30] [] (st':=⟨[(1,AV.fp (nGOp o)),(5,AV.loc 5 31 0 0),(7,AV.row 22 2 0 (slotsC W).length),(8,AV.row 8 1 0 (List.length (List.map nStr ws))),(9,I i),(10,AV.loc 10 2 0 0),(28,AV.sl 2 (fsA W o)),(29,I (slotsC W).length),(30,I i)],[(5,⟨31,zag,[nGOp c],true⟩),(8,⟨1,zaD,List.map nStr ws,false⟩),(10,⟨2,zae,[[AV.fp [I (getN off o)],AV.v (.pointer none)]],true⟩),(22,⟨2,zae,tsA W,true⟩)]⟩) (by kernel_rfl); have t10:=fm10n o c (fsA W o) W hW ws (slotsC W).length i (getN off o); rw [c_textN (hN rfl),zcZ] at t10; refine wp_seq (fmStep fm_r10 t10 h5 (fun a6 w6 h6=>?_)); refine wp_seq (wp_seq (fmStep fm_r11 (fm11n o c (fsA W o) W hW ws (slotsC W).length i (getN off o) _ _) h6 (fun a7 w7 h7=>?_))); refine wp_cond (h7.bool (b:=!decide (fits (getN off o))) rfl) ?_; by_cases hk:okW o (false,off)
   · rw [show decide (fits (getN off o))=true from decide_eq_true hk,Bool.not_true,iNs]; refine wp_skip ?_; have h8:=h7.trim Stable.none [1,5,7,8,9,10,11,28,29,30] [] rfl; have t13:=fm13n o c (fsA W o) W hW ws (slotsC W).length i (getN off o) (tx (Lib.itoa (getN off o))); rw [zai rfl,zai (by rw [List.length_map]; omega),zai rfl] at t13; refine wp_seq (fmStep fm_r13 t13 h8 (fun a9 w9 h9=>?_)); rw [map_str,map_str2] at h9; refine wp_seq (fmStep fm_r14 (fm14n o c (fsA W o) W hW _ (slotsC W).length i (getN off o)) h9 (fun aA wA hA=>?_)); refine wp_cond (hA.bool (b:=!true) rfl) ?_; rw [iNs]; have hB:=hA.trim Stable.none [1,5,7,8,9,10,28,29,30] [] rfl; have t16:=fm16 W i off hp o c (fsA W o) (ws++[tx (Lib.itoa (getN off o))]) (slotsC W).length (getN off o); rw [cPQ,cPQ] at t16; exact fmStep fm_r16 t16 hB (fun aC wC hC=>hok hk aC wC (by simpa only [copy1,wordC,if_true,if_false,Bool.false_eq_true] using hC))
   · rw [show decide (fits (getN off o))=false from decide_eq_false hk,Bool.not_false,if_pos rfl]; have h8:=h7.trim Stable.none [] [5,8,10,22] (st':=⟨[],[]⟩) (by kernel_rfl); exact wp_seq (fmStep fm_r12 fm12 h8 (fun aC wC hC=>wp_ret (hbad hk aC wC hC)))
 | true =>
   have hf:(fsA W o)[((i:Nat):Int).toNat]?=some [.v (.pointer none),.fp [.sl 1 (List.map zad (getL off o))]]:=by unfold fsA; rw [hi2,List.getElem?_map,hp]; rfl
   refine index_op (t:=zjI) (e:=zae) (z:=2) (s:=28) (x:=30) (d:=33) (by unfold opIs; kernel_rfl) (by kernel_rfl) (by kernel_rfl) (by decide) h1 rfl rfl (by omega) hf (fun a2 h2=>?_); have h3:=h2.trim Stable.none [1,5,7,8,28,29,30,32,33] [] (by kernel_rfl) (st':=⟨[(1,AV.fp (nGOp o)),(5,AV.loc 5 31 0 0),(7,AV.row 22 2 0 (slotsC W).length),(8,AV.row 8 1 0 (List.length (List.map nStr ws))),(28,AV.sl 2 (fsA W o)),(29,I (slotsC W).length),(30,I i),(32,I i),(33,AV.fp [AV.v (.pointer none),AV.fp [AV.sl 1 (List.map zad (getL off o))]])],(stF o c W ws i).m⟩); refine segP Stable.none fm_hb fm_n fm_r9 (fm9l o c (fsA W o) W hW ws (slotsC W).length i (getL off o)) (by rw [z9]; decide) h3 (fun a4 w4 h4=>?_); obtain ⟨sx,hs1,hs2⟩:=c_textL (getL off o) (hL rfl).1 (hL rfl).2; have h5:=h4.trim Stable.none [1,5,7,8,9,10,28,29,30] [] (st':=⟨[(1,AV.fp (nGOp o)),(5,AV.loc 5 31 0 0),(7,AV.row 22 2 0 (slotsC W).length),(8,AV.row 8 1 0 (List.length (List.map nStr ws))),(9,I i),(10,AV.loc 10 2 0 0),(28,AV.sl 2 (fsA W o)),(29,I (slotsC W).length),(30,I i)],[(5,⟨31,zag,[nGOp c],true⟩),(8,⟨1,zaD,List.map nStr ws,false⟩),(10,⟨2,zae,[[AV.v (.pointer none),AV.fp [AV.sl 1 (List.map zad (getL off o))]]],true⟩),(22,⟨2,zae,tsA W,true⟩)]⟩) (by kernel_rfl); have t10:=fm10l o c (fsA W o) W hW ws (slotsC W).length i (getL off o); rw [hs1,zcZ] at t10; refine wp_seq (fmStep fm_r10 t10 h5 (fun a6 w6 h6=>?_)); refine wp_seq (wp_seq (fmStep fm_r11 (fm11l o c (fsA W o) W hW ws (slotsC W).length i (getL off o) _ _) h6 (fun a7 w7 h7=>?_))); refine wp_cond (h7.bool (b:=!decide ((getL off o).length≤300∧∀ n∈getL off o,fits n)) rfl) ?_; by_cases hk:okW o (true,off)
   · rw [show decide ((getL off o).length≤300∧∀ n∈getL off o,fits n)=true from decide_eq_true hk,Bool.not_true,iNs]; refine wp_skip ?_; have h8:=h7.trim Stable.none [1,5,7,8,9,10,11,28,29,30] [] rfl; have t13:=fm13l o c (fsA W o) W hW ws (slotsC W).length i (getL off o) (sx); rw [zai rfl,zai (by rw [List.length_map]; omega),zai rfl] at t13; refine wp_seq (fmStep fm_r13 t13 h8 (fun a9 w9 h9=>?_)); rw [map_str,map_str2] at h9; refine wp_seq (fmStep fm_r14 (fm14l o c (fsA W o) W hW _ (slotsC W).length i (getL off o)) h9 (fun aA wA hA=>?_)); refine wp_cond (hA.bool (b:=true) rfl) ?_; rw [if_pos rfl]; have hB:=hA.trim Stable.none [1,5,7,8,9,10,28,29,30] [] rfl; have t16:=fm15 W i off hp o c (fsA W o) (ws++[sx]) (slotsC W).length (getL off o); rw [cPQ,cPQ] at t16; exact fmStep fm_r15 t16 hB (fun aC wC hC=>hok hk aC wC (by simpa only [copy1,wordC,if_true,if_false,Bool.false_eq_true,hs2 hk] using hC))
   · rw [show decide ((getL off o).length≤300∧∀ n∈getL off o,fits n)=false from decide_eq_false hk,Bool.not_false,if_pos rfl]; have h8:=h7.trim Stable.none [] [5,8,10,22] (st':=⟨[],[]⟩) (by kernel_rfl); exact wp_seq (fmStep fm_r12 fm12 h8 (fun aC wC hC=>wp_ret (hbad hk aC wC hC)))
def wsA (W:Nat) (o:GOp) (i:Nat):List ByteArray:=tx (kw W) :: ((slotsC W).take i).map fun p=>tx (wordC o p)
def cpA (W:Nat) (o:GOp) (i:Nat):GOp:=((slotsC W).take i).foldl (copy1 o) (blankS W)
theorem zi2 (W:Nat):(slotsC W).length≤7:=by unfold slotsC; split <;> decide
theorem wsA_succ {W:Nat} {o:GOp} {i:Nat} {p:Bool×Nat} (hp:(slotsC W)[i]?=some p):wsA W o (i+1)=wsA W o i++[tx (wordC o p)]:=by unfold wsA; rw [List.take_add_one,hp]; simp
theorem cpA_succ {W:Nat} {o:GOp} {i:Nat} {p:Bool×Nat} (hp:(slotsC W)[i]?=some p):cpA W o (i+1)=copy1 o (cpA W o i) p:=by unfold cpA; rw [List.take_add_one,hp]; simp
abbrev stE (o c:GOp) (ws:List ByteArray):St:=⟨[(1,AV.fp (nGOp o)),(5,AV.loc 5 31 0 0),(8,AV.row 8 1 0 (List.length (List.map nStr ws)))],[(5,⟨31,zag,[nGOp c],true⟩),(8,⟨1,zaD,List.map nStr ws,false⟩)]⟩
theorem fm_loop (o:GOp) (ho:OpW o) (W:Nat) (hW:W < 12)
  (h:NowP w0 S0 κ0 K zan.fn.ntmps X0 ⟨[(1,AV.fp (nGOp o)),(5,AV.loc 5 31 0 0),(6,AV.sl 2 (fsA W o)),(7,AV.row 22 2 0 (slotsC W).length),(8,AV.row 8 1 0 (List.length (List.map nStr (wsA W o 0))))],[(5,⟨31,zag,[nGOp (cpA W o 0)],true⟩),(8,⟨1,zaD,List.map nStr (wsA W o 0),false⟩),(22,⟨2,zae,tsA W,true⟩)]⟩ a w) {Q:Exit→Act→World→Prop}
  (hok:(∀ p∈slotsC W,okW o p)→∀ a' w',NowP w0 S0 κ0 K zan.fn.ntmps X0 (stE o (copyS W o) (wsA W o (slotsC W).length)) a' w'→Q .normal a' w')
  (hbad:¬ (∀ p∈slotsC W,okW o p)→∀ a' w',NowP w0 S0 κ0 K zan.fn.ntmps X0 stBad a' w'→Q .ret a' w'):(Code.seq (.region 7 (fmO 7) (fmD 7)) (.block 0 (.loop (.seq (.region 8 (fmO 8) (fmD 8)) (.seq (.cond (.tmp 31) .skip (.exit 0)) (.seq (.block 1 fmBody) (.region 17 (fmO 17) (fmD 17)))))))).wp zan.P Q a w:=by
 have hlen:=zi2 W; have hfl:(fsA W o).length=(slotsC W).length:=by unfold fsA; rw [List.length_map]
 refine wp_seq (fmStep fm_r7 (fm7 o (cpA W o 0) (fsA W o) W hW (wsA W o 0)) h (fun a1 w1 h1=>?_)); rw [hfl] at h1; refine wp_block (wp_loop (fun a w=>∃ k:Nat,k≤(slotsC W).length∧(∀ p∈(slotsC W).take k,okW o p)∧NowP w0 S0 κ0 K zan.fn.ntmps X0 (stF o (cpA W o k) W (wsA W o k) k) a w) (fun a _=>(slotsC W).length - cnt a 30) ⟨0,Nat.zero_le _,by simp,h1⟩ ?_)
 rintro a w ⟨k,hk,hall,hn⟩
 have hc0:cnt a 30=k:=by rw [hn.cnt (n:=(k:Int)) rfl]; simp
 refine wp_seq (fmStep fm_r8 (fm8 o (cpA W o k) (fsA W o) W hW (wsA W o k) (slotsC W).length k) hn (fun a2 w2 h2=>?_)); refine wp_seq (wp_cond (h2.bool (b:=decide ((k:Int) < (slotsC W).length)) rfl) ?_); by_cases hlt:k < (slotsC W).length
 · rw [decide_eq_true (by omega),if_pos rfl]; refine wp_skip ?_; have h3:=h2.trim Stable.none [1,5,7,8,28,29,30] [] (st':=stF o (cpA W o k) W (wsA W o k) k) (by kernel_rfl); have hp:(slotsC W)[k]?=some (slotsC W)[k]:=List.getElem?_eq_getElem hlt; refine wp_seq (wp_block (fm_round o (cpA W o k) W hW (wsA W o k) k (by unfold wsA; simp; omega) (slotsC W)[k] hp (fun _=>ho.num _) (fun _=>ho.list _) h3 (fun hok1 a4 w4 h4=>?_) (fun hbad1 a4 w4 h4=>?_)))
   · rw [← cpA_succ hp,← wsA_succ hp] at h4; refine fmStep fm_r17 (fm17 o (cpA W o (k+1)) (fsA W o) W hW (wsA W o (k+1)) (slotsC W).length k) h4 (fun a5 w5 h5=>?_); rw [w6Q] at h5; refine ⟨⟨k+1,hlt,?_,by exact_mod_cast h5⟩,?_⟩
     · intro p hm; rw [List.take_add_one,hp] at hm; rcases List.mem_append.1 hm with hm | hm
       · exact hall p hm
       · have:p=(slotsC W)[k]:=by simpa using hm
         rw [this]; exact hok1
     · have:cnt a5 30=k+1:=by rw [h5.cnt (n:=(k:Int)+1) rfl]; omega
       show (slotsC W).length - cnt a5 30 < (slotsC W).length - cnt a 30; omega
   · exact hbad (fun q=>hbad1 (q _ (List.getElem_mem hlt))) a4 w4 h4
 · rw [decide_eq_false (by omega),iNs]; have hkl:k=(slotsC W).length:=by omega
   subst hkl; rw [List.take_length] at hall; have e:cpA W o (slotsC W).length=copyS W o:=by unfold cpA copyS; rw [List.take_length]
   rw [e] at h2; exact wp_exit (hok hall _ _ (h2.trim Stable.none [1,5,8] [22] (by kernel_rfl)))
theorem fsA_cell {W i off:Nat} {b:Bool} (h:(slotsC W)[i]?=some (b,off)) (o:GOp):(nGOp o)[off]?=some (if b then .sl 1 (List.map zad (getL off o)) else I (getN off o)):=by
 have hW:W < 12:=by
  rcases Nat.lt_or_ge W 12 with q | q
  · exact q
  · rw [show slotsC W=[] from by unfold slotsC; split <;> first | omega | rfl] at h; simp at h
 rcases lt12 hW with rfl | rfl | rfl | rfl | rfl | rfl | rfl | rfl | rfl | rfl | rfl | rfl
 all_goals
  match i,h with
  | 0,h=>first | (cases h; done) | (injection h with h; injection h with h1 h2; subst h1; subst h2; rfl)
  | 1,h=>first | (cases h; done) | (injection h with h; injection h with h1 h2; subst h1; subst h2; rfl)
  | 2,h=>first | (cases h; done) | (injection h with h; injection h with h1 h2; subst h1; subst h2; rfl)
  | 3,h=>first | (cases h; done) | (injection h with h; injection h with h1 h2; subst h1; subst h2; rfl)
  | 4,h=>first | (cases h; done) | (injection h with h; injection h with h1 h2; subst h1; subst h2; rfl)
  | 5,h=>first | (cases h; done) | (injection h with h; injection h with h1 h2; subst h1; subst h2; rfl)
  | 6,h=>first | (cases h; done) | (injection h with h; injection h with h1 h2; subst h1; subst h2; rfl)
  | i+7,h=>cases h
theorem slots_ne {W:Nat} (hW:W < 12):slotsC W≠[]:=by rcases lt12 hW with rfl | rfl | rfl | rfl | rfl | rfl | rfl | rfl | rfl | rfl | rfl | rfl <;> exact List.cons_ne_nil _ _
theorem view_from {S:Nat→Prop} {w:World} {W g:Nat} {o:GOp} {v:Value} (hfp:CRel S w (.fp (nGOp o)) (.pointer (some ⟨g,0,none⟩))) (h:CRel S w (.sl 2 (List.map zaf (slotsS W g))) v):CRel S w (.sl 2 (fsA W o)) v:=by
 refine h.view (by unfold fsA slotsS; simp) (fun cs hcs=>?_) (fun i j cs cs' a' hi hi' hj=>?_)
 · unfold fsA at hcs; obtain ⟨p,_,rfl⟩:=List.mem_map.1 hcs; split <;> rfl
 · unfold fsA at hi'; unfold slotsS at hi; rw [List.getElem?_map] at hi'; rw [List.map_map,List.getElem?_map] at hi
   cases hp:(slotsC W)[i]? with
   | none=>rw [hp] at hi'; cases hi'
   | some p =>
     obtain ⟨b,off⟩:=p; rw [hp] at hi hi'; injection hi with hi; injection hi' with hi'; subst hi; subst hi'; have hcell:=fsA_cell hp o
     cases b with
     | false =>
       match j,hj with
       | 0,hj=>injection hj with hj; subst hj; refine ⟨_,rfl,fun u hu=>?_⟩; cases hu; exact hfp.cell hcell
       | 1,hj=>injection hj with hj; subst hj; exact ⟨_,rfl,fun u hu=>hu⟩
       | j+2,hj=>simp at hj
     | true =>
       match j,hj with
       | 0,hj=>injection hj with hj; subst hj; exact ⟨_,rfl,fun u hu=>hu⟩
       | 1,hj=>injection hj with hj; subst hj; refine ⟨_,rfl,fun u hu=>?_⟩; cases hu; exact hfp.cell hcell
       | j+2,hj=>simp at hj
theorem view_to {S:Nat→Prop} {κ:Kap} {D D':Nat→Prop} {w:World} {kb:Option (Nat×Nat)} {W g c:Nat} {e:TypeId} (hW:W < 12) (hk:κ 5=some (g,c)) (hd:D' 5) (h:EntAt S κ D w kb ⟨2,e,List.map zaf (slotsS W g),false⟩):EntAt S κ D' w kb ⟨2,e,tsA W,true⟩:=by
 refine h.boxed (by decide) (fun q=>slots_ne hW (by unfold slotsS at q; simpa using q)) (by unfold tsA slotsS; simp) (fun cs hcs=>?_) (fun i j cs cs' a' hi hi' hj=>?_)
 · unfold tsA at hcs; obtain ⟨p,_,rfl⟩:=List.mem_map.1 hcs; split <;> rfl
 · unfold tsA at hi'; unfold slotsS at hi; rw [List.getElem?_map] at hi'; rw [List.map_map,List.getElem?_map] at hi
   cases hp:(slotsC W)[i]? with
   | none=>rw [hp] at hi'; cases hi'
   | some p =>
     obtain ⟨b,off⟩:=p; rw [hp] at hi hi'; injection hi with hi; injection hi' with hi'; subst hi; subst hi'
     have hv:VRel S κ D' w (.loc 5 31 0 off) (.pointer (some ⟨g,off,none⟩)):=by
      have:=VRel.loc (S:=S) (w:=w) 5 31 0 off g c hd hk
      rwa [Nat.zero_mul,Nat.zero_add] at this
     cases b with
     | false =>
       match j,hj with
       | 0,hj=>injection hj with hj; subst hj; exact ⟨_,rfl,fun u hu=>by cases hu; exact hv⟩
       | 1,hj=>injection hj with hj; subst hj; exact ⟨_,rfl,fun u hu=>.c hu⟩
       | j+2,hj=>simp at hj
     | true =>
       match j,hj with
       | 0,hj=>injection hj with hj; subst hj; exact ⟨_,rfl,fun u hu=>.c hu⟩
       | 1,hj=>injection hj with hj; subst hj; exact ⟨_,rfl,fun u hu=>by cases hu; exact hv⟩
       | j+2,hj=>simp at hj
theorem zrQ {S:Nat→Prop} {w:World} (h:varsOk S w):CRel S w (.fp (zbl.map AV.v)) (.pointer (some ⟨0,0,none⟩)):=by
 refine .fp _ _ (fun j=>zbl.getD j undef) h.1.1 (fun j c hj=>?_) (fun j c hj=>?_)
 all_goals
  rw [List.getElem?_map] at hj
  cases hx:zbl[j]? with
  | none=>rw [hx] at hj; cases hj
  | some x =>
    rw [hx] at hj; injection hj with hj; subst hj; have hg:zbl.getD j undef=x:=by rw [List.getD_eq_getElem?_getD,hx]; rfl
    first
     | (rw [hg]; exact .v x)
     | (rw [hg,add_at,Nat.zero_add]
        refine ⟨?_,?_⟩
        · have:=World.var?_cell g0 h.1.2 j; rw [this]; simp [hx]
        · have hm:x∈zbl:=List.mem_of_getElem? hx; unfold zbl at hm; obtain ⟨p,_,hp⟩:=List.mem_flatMap.1 hm; simp only [List.mem_cons,List.mem_nil_iff,or_false] at hp
          rcases hp with rfl | rfl <;> rfl)
theorem forms_at {W:Nat} (hW:W < 12):((zbl.map AV.v).drop (W*2)).take 2=[.v (.string (tx (kw W))),I (((slotsC W).length+1:Nat):Int)]:=by rcases lt12 hW with rfl | rfl | rfl | rfl | rfl | rfl | rfl | rfl | rfl | rfl | rfl | rfl <;> rfl
theorem glob_op {N:Nat} {ops:Array Oper} {Q:Exit→Act→World→Prop} {i d x W:Nat} {st:St} {X:Sat2} {K':Act→World→Prop} (ho:opIs ops i d (.indexAddr zbN (.global 0) (.tmp x))) (hd:d < N) (h:NowP w0 S0 κ0 K N X st a w)
  (hx:get st.t x=I (W:Nat)) (hW:W < 12) (hK:∀ a',NowP w0 S0 κ0 K N X { st with t:=(d,.fp [.v (.string (tx (kw W))),I (((slotsC W).length+1:Nat):Int)]) :: st.t } a' w→K' a' w):wpOp zP ops Q i K' a w:=by
 obtain ⟨S,κ,h1,h2⟩:=h; obtain ⟨o,o1,o2,o3,o4⟩:=ho.get; have hvx:=h1.slots x; rw [hx] at hvx; have hvs:VRel S κ (fun b=>(Ab.look st.m b).isSome=true) w (.fp (zbl.map AV.v)) (.pointer (some ⟨0,0,none⟩)):=.c (zrQ (Good.okw h1))
 have hi:aIndex zP zbN (.fp (zbl.map AV.v)) (I (W:Nat))=some { val:=.fp [.v (.string (tx (kw W))),I (((slotsC W).length+1:Nat):Int)] }:=by
  have hu:zP.underlying zbN=some (.array 12 118):=by kernel_rfl
  have hz:szB zP 118=some 2:=by kernel_rfl
  unfold aIndex; simp only [hu,hz]; rw [iPQ]; simp only [Int.toNat_natCast]; rw [forms_at hW]
 obtain ⟨y,e1,e2,_⟩:=zj8 (w:=w) hi hvs hvx; refine zjX (w':=w) (y:=y) o1 o4 ?_ ?_
 · have:(Instr.indexAt zbN (a.eval (.global 0)) (a.eval (.tmp x))).run zP w=.ok y w:=e1; simp [execOp,o3,this]
 · rw [o2]; exact hK _ ⟨S,κ,h1.put hd _ _ e2,h2⟩
theorem fm6_0 (o c:GOp) (W:Nat) (hW:W < 12):tSeg zan zT 6 0 1 ⟨[(1,AV.fp (nGOp o)),(4,I W),(5,AV.loc 5 31 0 0),(6,AV.sl 2 (fsA W o)),(7,AV.row 22 2 0 (slotsC W).length)],[(5,⟨31,zag,[nGOp c],true⟩),(22,⟨2,zae,tsA W,true⟩)]⟩ =
  some ⟨[(23,I W),(1,AV.fp (nGOp o)),(4,I W),(5,AV.loc 5 31 0 0),(6,AV.sl 2 (fsA W o)),(7,AV.row 22 2 0 (slotsC W).length)],[(5,⟨31,zag,[nGOp c],true⟩),(22,⟨2,zae,tsA W,true⟩)]⟩:=by
 rcases lt12 hW with rfl | rfl | rfl | rfl | rfl | rfl | rfl | rfl | rfl | rfl | rfl | rfl <;> kernel_rfl
theorem NowP.ren {N:Nat} {st st':St} (h:NowP w0 S0 κ0 K N X0 st a w) (b s:Nat) (hb:b < 1000) (hs:s < 1000) (hbs:b≠s) (hL:Ab.look st.m s=none) (e:renS b s st=st'):NowP w0 S0 κ0 K N X0 st' a w:=by obtain ⟨S,κ,h1,_⟩:=h; subst e; exact ⟨S,_,h1.ren hb hs hbs hL,trivial⟩
theorem fm5' (w:Int) (g1 g5:Nat):tSeg zan zT 5 0 6 ⟨[(1,AV.v (.pointer (some ⟨g1,0,none⟩))),(4,I w),(5,AV.v (.pointer (some ⟨g5,0,none⟩)))],[]⟩=(callD zaV (cw zdE [I w,AV.v (.pointer (some ⟨g1,0,none⟩))] []) fun (r0:(List zaM)) =>
 callD zaV (cw zdE [I w,AV.v (.pointer (some ⟨g5,0,none⟩))] []) fun (r1:(List zaM)) =>
 some ⟨[(7,.row 22 2 0 (List.length (List.map zaf r1))),(6,.row 20 2 0 (List.length (List.map zaf r0))),(22,.row 22 2 0 (List.length (List.map zaf r1))),(21,I w),(20,.row 20 2 0 (List.length (List.map zaf r0))),(19,I w),(1,.v (.pointer (some ⟨g1,0,none⟩))),(4,I w),(5,.v (.pointer (some ⟨g5,0,none⟩)))],[(22,⟨2,zae,List.map zaf r1,false⟩),(20,⟨2,zae,List.map zaf r0,false⟩)]⟩):=by kernel_rfl
theorem fm_mid (o c:GOp) (W:Nat) (hW:W < 12)
  (h:NowP w0 S0 κ0 K zan.fn.ntmps X0 ⟨[(1,AV.loc 1 31 0 0),(4,I W),(5,AV.loc 5 31 0 0)],[(1,⟨31,zag,[nGOp o],true⟩),(5,⟨31,zag,[nGOp c],true⟩)]⟩ a w) {Q:Exit→Act→World→Prop} {rest:Code}
  (hQ:∀ a' w',NowP w0 S0 κ0 K zan.fn.ntmps X0 ⟨[(1,AV.fp (nGOp o)),(5,AV.loc 5 31 0 0),(6,AV.sl 2 (fsA W o)),(7,AV.row 22 2 0 (slotsC W).length),(8,AV.row 8 1 0 (List.length (List.map nStr [tx (kw W)])))],[(5,⟨31,zag,[nGOp c],true⟩),(8,⟨1,zaD,List.map nStr [tx (kw W)],false⟩),(22,⟨2,zae,tsA W,true⟩)]⟩ a' w'→rest.wp zan.P Q a' w'):(Code.seq (.region 5 (fmO 5) false) (.seq (.region 6 (fmO 6) false) rest)).wp zan.P Q a w:=by
 have hv1:∃ g1,a.tmps.getD 1 undef=.pointer (some ⟨g1,0,none⟩):=by obtain ⟨S,κ,hg,_⟩:=h; obtain ⟨g,c',_,_,e⟩:=(hg.slots 1).loc_inv; exact ⟨g,by rw [e]⟩
 obtain ⟨g1,hg1⟩:=hv1; have h1:=h.freeze Stable.none fm_n [1] rfl (st':=⟨[(1,AV.fp (nGOp o)),(4,I W),(5,AV.loc 5 31 0 0)],[(5,⟨31,zag,[nGOp c],true⟩)]⟩) (by kernel_rfl); obtain ⟨g5,c5,κd,hκd,hg5,h2⟩:=h1.leave (B:=5) (k:=5) rfl (by decide) (by kernel_rfl) rfl; have hst5:=Away.stable (w0:=w0) (κ0:=κ0) (K:=K) (B:=5) (e:=⟨31,zag,[nGOp c],true⟩) hκd; have hfp:=Stable.lasts (.fp (nGOp o)) (.pointer (some ⟨g1,0,none⟩))
 have h3:NowP w0 S0 κ0 K zan.fn.ntmps (fun S κ L w=>Away w0 κ0 K 5 ⟨31,zag,[nGOp c],true⟩ g5 κd S κ L w∧CRel S w (.fp (nGOp o)) (.pointer (some ⟨g1,0,none⟩)))
   ⟨[(1,AV.v (.pointer (some ⟨g1,0,none⟩))),(4,I W),(5,AV.v (.pointer (some ⟨g5,0,none⟩)))],[]⟩ a w:=by
  obtain ⟨S,κ,hg,hx⟩:=h2; have hs1:=hg.slots 1
  have hc:CRel S w (.fp (nGOp o)) (.pointer (some ⟨g1,0,none⟩)):=by rw [← hg1]; exact VRel.fp_inv (show VRel S κ _ w (.fp (nGOp o)) _ from hs1)
  have q1:=GoodS.set hg 5 (.v (.pointer (some ⟨g5,0,none⟩))) (by rw [hg5]; exact .c (.v _)); have q2:=GoodS.set q1 1 (.v (.pointer (some ⟨g1,0,none⟩))) (by rw [hg1]; exact .c (.v _)); exact NowP.trim (hst5.both hfp) ⟨S,κ,q2,hx,hc⟩ [1,4,5] [] (by kernel_rfl)
 have z5:(fmO 5).size=6:=by kernel_rfl
 have t5:=fm5' (W:Nat) g1 g5; rw [zns g1 hW,zbD,zns g5 hW,zbD] at t5; refine wp_seq (wp_region ?_); rw [z5,show List.range 6=List.range' 0 6++[] from rfl]; refine segP (hst5.both hfp) fm_hb fm_n fm_r5 t5 (by rw [z5]; decide) h3 (fun a2 w2 h4=>?_); show (Code.seq (.region 6 (fmO 6) false) rest).wp zan.P Q a2 w2
 have h5:=(h4.trim (hst5.both hfp) [1,4,5,6,7] [] (by kernel_rfl) (st':=⟨[(1,AV.v (.pointer (some ⟨g1,0,none⟩))),(4,I W),(5,AV.v (.pointer (some ⟨g5,0,none⟩))),(6,.row 20 2 0 (List.length (List.map zaf (slotsS W g1)))),(7,.row 22 2 0 (List.length (List.map zaf (slotsS W g5))))],[(20,⟨2,zae,List.map zaf (slotsS W g1),false⟩),(22,⟨2,zae,List.map zaf (slotsS W g5),false⟩)]⟩)).freeze (hst5.both hfp) fm_n [20] rfl (st':=⟨[(1,AV.v (.pointer (some ⟨g1,0,none⟩))),(4,I W),(5,AV.v (.pointer (some ⟨g5,0,none⟩))),(6,.sl 2 (List.map zaf (slotsS W g1))),(7,.row 22 2 0 (List.length (List.map zaf (slotsS W g5))))],[(22,⟨2,zae,List.map zaf (slotsS W g5),false⟩)]⟩) (by
    generalize List.map zaf (slotsS W g1)=xs; generalize List.map zaf (slotsS W g5)=ys
    simp [zbm,zhI,zfJ,zbE,snap,Ab.look])
 obtain ⟨S,κ,hg,hk5,κ1,hc⟩:=h5.back hκd (by decide) rfl; have e1:=(hg.slots 1).v_inv; have e5:=(hg.slots 5).v_inv; have q1:=GoodS.set hg 1 (.fp (nGOp o)) (by rw [show a2.tmps.getD 1 undef=_ from e1]; exact .c hc)
 have q2:=GoodS.set q1 5 (.loc 5 31 0 0) (by
  rw [show a2.tmps.getD 5 undef=_ from e5]; have:=VRel.loc (S:=S) (κ:=κ) (D:=fun b=>(Ab.look ((5,(⟨31,zag,[nGOp c],true⟩:Ent)) :: [(22,(⟨2,zae,List.map zaf (slotsS W g5),false⟩:Ent))]) b).isSome=true) (w:=w2) 5 31 0 0 g5 c5 (by rfl) hk5
  exact this)
 have q3:=GoodS.set q2 6 (.sl 2 (fsA W o)) (.c (view_from hc (VRel.sl_inv (show VRel S κ _ w2 (.sl 2 (List.map zaf (slotsS W g1))) _ from hg.slots 6)))); have q4:=GoodS.reent q3 (B:=22) (ent':=⟨2,zae,tsA W,true⟩) rfl (view_to hW hk5 (by rfl) (hg.ents 22 _ rfl))
 have h6:=NowP.trim Stable.none (X:=X0) ⟨S,κ,q4,trivial⟩ [1,4,5,6,7] [] (st':=⟨[(1,AV.fp (nGOp o)),(4,I W),(5,AV.loc 5 31 0 0),(6,AV.sl 2 (fsA W o)),(7,AV.row 22 2 0 (slotsC W).length)],[(5,⟨31,zag,[nGOp c],true⟩),(22,⟨2,zae,tsA W,true⟩)]⟩) (by
  rw [show (slotsC W).length=(List.map zaf (slotsS W g5)).length by unfold slotsS; simp]
  rfl)
 have z6:(fmO 6).size=6:=by kernel_rfl
 refine wp_seq (wp_region ?_); rw [z6,show List.range 6=List.range' 0 1++(1 :: (List.range' 2 4++[])) from rfl]; refine segP Stable.none fm_hb fm_n fm_r6 (fm6_0 o c W hW) (by rw [z6]; decide) h6 (fun a3 w3 h7=>?_); rw [wpOps_cons]; refine glob_op (d:=24) (x:=23) (by unfold opIs; kernel_rfl) (by decide) h7 rfl hW (fun a4 h8=>?_); have h9:=h8.trim Stable.none [1,5,24,6,7] [] (st':=⟨[(1,AV.fp (nGOp o)),(5,AV.loc 5 31 0 0),(24,AV.fp [AV.v (.string (tx (kw W))),I (((slotsC W).length+1:Nat):Int)]),(6,AV.sl 2 (fsA W o)),(7,AV.row 22 2 0 (slotsC W).length)],[(5,⟨31,zag,[nGOp c],true⟩),(22,⟨2,zae,tsA W,true⟩)]⟩) (by kernel_rfl); refine segP Stable.none fm_hb fm_n fm_r6 (fm6 o c (fsA W o) W hW (tx (kw W)) _ W) (by rw [z6]; decide) h9 (fun a5 w5 hA=>?_); have hB:=hA.trim Stable.none [1,5,6,7,8] [] rfl; have hC:=NowP.ren hB 27 8 (by decide) (by decide) (by decide) (by kernel_rfl) rfl
 exact hQ _ _ (hC.trim Stable.none [1,5,6,7,8] [] (by
  clear hQ h hg1 h1 hg5 h2 h3 t5 h4 h5 hg hk5 hc e1 e5 q1 q2 q3 q4 h6 h7 h8 h9 hA hB hC
  rcases lt12 hW with rfl | rfl | rfl | rfl | rfl | rfl | rfl | rfl | rfl | rfl | rfl | rfl <;> kernel_rfl))
theorem formOfS_le (o:GOp):zbT o≤12:=by
 unfold zbT
 cases h:(List.range 12).find? (isForm o) with
 | none=>simp
 | some w=>have:=List.mem_range.1 (List.mem_of_find?_eq_some h); simp; omega
theorem fm3':tReg zan zT 3 ⟨[],[]⟩=some stBad:=by kernel_rfl
theorem fm19:tReg zan zT 19 ⟨[],[]⟩=some stBad:=by kernel_rfl
theorem word_len {o:GOp} (ho:OpW o) (p:Bool×Nat) (hk:okW o p):(wordC o p).length≤21000:=by
 unfold wordC; unfold okW at hk; split
 · rename_i h; rw [if_pos h] at hk; unfold wordL; split
   · simp
   · have:=ziA (k:=20) 44 ((getL p.2 o).map Lib.itoa) (fun w hw=>by
      obtain ⟨n,hn,rfl⟩:=List.mem_map.1 hw
      exact zda ((ho.list p.2).2 n hn))
     rw [List.length_map] at this; omega
 · have:=zda (ho.num p.2); omega
theorem kw_len (W:Nat):(kw W).length≤9:=by
 rcases Nat.lt_or_ge W 12 with h | h
 · rcases lt12 h with rfl | rfl | rfl | rfl | rfl | rfl | rfl | rfl | rfl | rfl | rfl | rfl <;> decide
 · unfold kw; rw [List.getElem?_eq_none (by simpa [formsT] using h)]; simp
abbrev stOut (r:List UInt8×Int):St:=⟨[(2,.v (.string (tx r.1))),(3,I r.2)],[]⟩
theorem fm_body {o:GOp} (ho:OpW o) (h:NowP w0 S0 κ0 K zan.fn.ntmps X0 ⟨[(0,AV.agg (nGOp o))],[]⟩ a w):fmC.wp zan.P (PostC w0 S0 κ0 K zan.fn.ntmps .ret (stOut (fmtR o))) a w:=by
 have bad:fmtS o=none→∀ a' w',NowP w0 S0 κ0 K zan.fn.ntmps X0 stBad a' w'→PostC w0 S0 κ0 K zan.fn.ntmps .ret (stOut (fmtR o)) .ret a' w':=fun e a' w' hn=>by refine ⟨rfl,?_⟩; unfold fmtR; rw [e]; obtain ⟨S,κ,hg,_⟩:=hn; exact ⟨S,κ,hg⟩
 rw [fm_shape]; refine wp_seq (fmStep fm_r0 (fm0 o) h (fun a1 w1 h1=>?_)); have t1:=fm1 o; rw [c_formOf,zmb] at t1; refine wp_seq (fmStep fm_r1 t1 h1 (fun a2 w2 h2=>?_)); refine wp_seq (wp_seq (fmStep fm_r2 (fm2 o (zbT o:Nat)) h2 (fun a3 w3 h3=>?_))); refine wp_cond (h3.bool (b:=(((zbT o:Nat):Int) == 12)) rfl) ?_; have hle:=formOfS_le o; by_cases hF:zbT o=12
 · rw [hF,show (((12:Nat):Int) == 12)=true from rfl,if_pos rfl]; have e:fmtS o=none:=by unfold fmtS; rw [if_neg (fun q=>by omega)]
   have h4:=h3.trim Stable.none [] [1] (st':=⟨[],[]⟩) (by kernel_rfl); exact wp_seq (fmStep fm_r3 fm3' h4 (fun a5 w5 h5=>wp_ret (bad e a5 w5 h5)))
 rw [show (((zbT o:Nat):Int) == 12)=false from by rw [beq_eq_false_iff_ne]; omega,iNs]; refine wp_skip ?_; have hW:zbT o < 12:=by omega
 generalize hWe:zbT o=W at hW h3; have h4:=h3.trim Stable.none [1,4] [] (st':=⟨[(1,AV.loc 1 31 0 0),(4,I W)],[(1,⟨31,zag,[nGOp o],true⟩)]⟩) (by kernel_rfl); have t4:=fm4 o W; rw [c_blank hW,zdX] at t4; refine wp_seq (fmStep fm_r4 t4 h4 (fun a5 w5 h5=>?_)); refine fm_mid o (blankS W) W hW h5 (fun a6 w6 h6=>?_); refine wp_seq (fm_loop o ho W hW (by simpa only [cpA,wsA,List.take_zero,List.foldl_nil,List.map_nil] using h6) (fun hok a7 w7 h7=>?_) (fun hbad a7 w7 h7=>bad (by unfold fmtS; rw [hWe,if_neg (fun q=>hbad q.2.1)]) a7 w7 h7)); have t18:=fm18 o (copyS W o) [] W hW (wsA W o (slotsC W).length); rw [c_same o _ (by have:=(ho.list 28).1; exact Nat.lt_of_le_of_lt this (by decide)) (by have:=(ho.list 9).1; exact Nat.lt_of_le_of_lt this (by decide)) (by have:=(ho.list 10).1; exact Nat.lt_of_le_of_lt this (by decide)) (by have:=(ho.list 19).1; exact Nat.lt_of_le_of_lt this (by decide)),zaO] at t18; refine wp_seq (wp_seq (fmStep fm_r18 t18 h7 (fun a8 w8 h8=>?_))); refine wp_cond (h8.bool (b:=!decide (o=copyS W o)) rfl) ?_; by_cases hs:o=copyS W o
 · rw [decide_eq_true hs,iNs]; refine wp_skip ?_; have h9:=h8.trim Stable.none [8] [] (st':=⟨[(8,AV.row 8 1 0 (List.length (List.map nStr (wsA W o (slotsC W).length))))],[(8,⟨1,zaD,List.map nStr (wsA W o (slotsC W).length),false⟩)]⟩) (by kernel_rfl)
   have hws:wsA W o (slotsC W).length=(kw W :: (slotsC W).map (wordC o)).map tx:=by unfold wsA; rw [List.take_length,List.map_cons,List.map_map]; rfl
   have hlen:=zi2 W
   have hj:=ziA (k:=21000) 32 (kw W :: (slotsC W).map (wordC o)) (fun w hw=>by
    rcases List.mem_cons.1 hw with rfl | hw
    · have:=kw_len W; omega
    · obtain ⟨p,hp,rfl⟩:=List.mem_map.1 hw
      exact word_len ho p (hok p hp))
   have t20:=fm20 (wsA W o (slotsC W).length); rw [cPQ,List.take_length,hws,show (({ data:={ toList:=[32] } }:ByteArray))=tx [32] from rfl,c_Join (by simp; omega) (by simp only [List.length_cons,List.length_map] at hj; omega),zaw] at t20; rw [hws] at h9; refine wp_seq (fmStep fm_r20 t20 h9 (fun aA wA hA=>wp_ret ⟨rfl,?_⟩))
   have e:fmtS o=some (lineS W o):=by unfold fmtS; rw [hWe,if_pos ⟨hW,hok,hs.symm⟩]
   unfold fmtR; rw [e]; obtain ⟨S,κ,hg,_⟩:=hA; exact ⟨S,κ,hg⟩
 · rw [decide_eq_false hs,if_pos (by simp)]; have h9:=h8.trim Stable.none [] [8] (st':=⟨[],[]⟩) (by kernel_rfl); exact wp_seq (fmStep fm_r19 fm19 h9 (fun aA wA hA=>wp_ret (bad (by unfold fmtS; rw [hWe,if_neg (fun q=>hs q.2.2.symm)]) aA wA hA)))
theorem fmt_ok:CallOK zP (single zb5 zOrc):=by
 refine ora (o:=oFmt) (fun args=>by unfold zOrc; simp (decide:=true) only [if_false,if_true]) fm_enters (fun args r ms' hr=>?_); unfold oFmt at hr; split at hr
 case h_2=>cases hr
 rename_i cs; split at hr
 case h_2=>cases hr
 rename_i o hd; split at hr
 case isFalse=>cases hr
 rename_i ho; injection hr with hr; injection hr with h1 h2; subst h1 h2; have he:=dGOp.ok cs o hd; subst he; refine ⟨rfl,fun w S κ vals hvl hS hk hv=>?_⟩; have hf:zan.P.funcs[zb5]?=some zan.fn:=by kernel_rfl
 refine ziU (args:=[AV.agg (nGOp o)]) (ms:=[]) (frz:=false) (ex:=.ret) (st:=stOut (fmtR o)) hf fm_hb (show 1≤zan.fn.ntmps by decide) hvl hS hk hv (fun b ent hb=>by simp [Ab.look] at hb) (fun b b' g c c' hd=>by simp [Dm,Ab.look] at hd) (fun id=>by simp) (fun a hg=>?_) ?_ ?_ ?_
 · obtain ⟨S,κ,hg⟩:=hg; exact fm_body ho ⟨S,κ,hg,trivial⟩
 · kernel_rfl
 · kernel_rfl
 · kernel_rfl
theorem zpR {o:GOp} (ho:OpW o):cw zb5 [.agg (nGOp o)] []=some (zbW (tx (fmtR o).1,(fmtR o).2)):=by
 refine zgI fmt_ok ?_; have hd:dGOp.dec (nGOp o)=some o:=dGOp.de o
 have e:oFmt [.agg (nGOp o)]=(match dGOp.dec (nGOp o) with
  | some o=>@ite _ (OpW o) (Classical.propDecidable _) (some (.tup [.v (.string (tx (fmtR o).1)),I (fmtR o).2],[])) none
  | none=>none):=rfl
 show oFmt [.agg (nGOp o)]=_; rw [e,hd]; simp only; rw [if_pos ho]; rfl
end
end Go.Proofs.YtdclabgakicjeaaGreatDoor
end
