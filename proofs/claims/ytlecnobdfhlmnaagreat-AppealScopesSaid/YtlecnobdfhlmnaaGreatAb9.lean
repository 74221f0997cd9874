/- slices.SortFunc, as the kit's contract on it says: a list that is lent becomes a sorted one. -/
import Derived.Test.YtlecnobdfhlmnaaGreatAb6
import Derived.Shelf.SlSortCmp.WholeK
import Derived.Shelf.SlSortCmp.NoneTotal
import Derived.Shelf.SlIterI.Nil
import Derived.Shelf.Spec.SlicesGrow
import Derived.Test.YtlecnobdfhlmnaaGreatAb8
set_option linter.unusedSimpArgs false
set_option linter.unusedVariables false
set_option linter.unusedSectionVars false
noncomputable section
namespace Go.Ab
open Go.RowKit Go.Sort Go.Proofs Go.Shelf
variable[Dr]
section
variable{T:Type}[Inhabited T]{lt:T->T->Bool}
def atS(l:List T)(i:Nat):T:=l[min i (l.length-1)]?.getD default
def sortS(lt:T->T->Bool)(l:List T):List T:=(pdq (λi j=>lt (atS l i) (atS l j)) (Array.range l.length) 0 l.length (Lib.bitLen l.length) true true).toList.map (atS l)
theorem atS_get{l:List T}{i:Nat}(h:i<l.length):atS l i=l[i]:=by
 unfold atS
 grind
theorem swoAt(hO:SWO lt)(l:List T):SWO λi j=>lt (atS l i) (atS l j):=
 ⟨λ_=>hO.irrefl _,λ_ _ _=>hO.trans _ _ _,λ_ _ _=>hO.ntrans _ _ _⟩
theorem pdqAt(hO:SWO lt)(l:List T):PermIn 0 l.length (Array.range l.length) (pdq (λi j=>lt (atS l i) (atS l j)) (Array.range l.length) 0 l.length (Lib.bitLen l.length) true true)/\SortedIn (λi j=>lt (atS l i) (atS l j)) 0 l.length (pdq (λi j=>lt (atS l i) (atS l j)) (Array.range l.length) 0 l.length (Lib.bitLen l.length) true true):=
 pdq_sorts _ (swoAt hO l) (Array.range l.length) 0 l.length (Lib.bitLen l.length) true true (zdh _) (by simp) (Or.inl rfl)
theorem range_at(l:List T):(List.range l.length).map (atS l)=l:=by
 apply zeB
 ·simp
 ·intro i h1 h2;rw[zgo,List.getElem_range,atS_get h2]
theorem zui(hO:SWO lt)(l:List T):(sortS lt l).Perm l:=by
 obtain⟨⟨h1,_,h3⟩,_⟩:=pdqAt hO l;unfold sortS;generalize pdq (λi j=>lt (atS l i) (atS l j)) (Array.range l.length) 0 l.length (Lib.bitLen l.length) true true=d at h1 h3
 have e:d.extract 0 l.length=d:=by
  have:l.length=d.size:=by rw[h1];simp
  rw[this];simp
 rw[e]at h3;have h4:=h3.map (atS l);have e2:((Array.range l.length).extract 0 l.length).toList=List.range l.length:=by simp
 rw[e2,range_at]at h4;exact h4
theorem zvf(hO:SWO lt)(l:List T):(sortS lt l).Pairwise λx y=>lt y x=false:=by
 obtain⟨⟨h1,_,_⟩,h4⟩:=pdqAt hO l;unfold sortS;generalize pdq (λi j=>lt (atS l i) (atS l j)) (Array.range l.length) 0 l.length (Lib.bitLen l.length) true true=d at h1 h4;have hd:d.size=l.length:=by rw[h1];simp
 rw[zew,zcj];intro i j hi hj hij;have hi':i<d.size:=by simpa using hi
 have hj':j<d.size:=by simpa using hj
 have:=h4 i j (by omega) hij (by omega)
 simp_all
theorem zJo(hO:SWO lt)(l:List T):(sortS lt l).length=l.length:=(zui hO l).length_eq
theorem zyp{P:Program}{f:FuncId}(h:enters P f=true)(args:Array Value)(w:World):(callFunc f args).run P w=.ok (.enter f args) w:=by
 unfold enters at h;split at h
 ·rename_i fn hf;simp only[zaO,zc4]at h;obtain⟨c,hc⟩:=zaI.1 h.1;exact enters_of hf h.2 hc args w
 ·cases h
variable{P:Program}{ρ:Ren}{C:Cfg}{A:AnnF}{k:Nat}{ty:TypeId}{fc:FuncId}{nT:T->List AV}
def lentR(k:Nat)(ty:TypeId)(es:List (List AV)):Mem:=[(1000,⟨k,ty,es,false⟩)]
theorem zFm{es:List (List AV)}{b:Nat}{ent:Ent}(h:look (lentR k ty es) b=some ent):b=1000/\ent=⟨k,ty,es,false⟩:=by
 unfold lentR at h;simp only[look]at h
 simp_all
theorem zxl{es:List (List AV)}{b:Nat}:Dm (lentR k ty es) b↔b=1000:=by
 unfold Dm;constructor
 ·intro h;obtain⟨e,he⟩:=zaI.1 h;exact(zFm he).1
 · rintro rfl
   simp[lentR,look]
theorem sort_calls(L:SlLaysF0.n6 P ρ)(aE:∀w,(isAgg (ρ.t 24)).run P w=.ok true w)(zE:∀w,(Go.sizeOf (ρ.t 24)).run P w=.ok k w)(hk0:0<k)(hn:∀x,(nT x).length=k)
  (eg:∀args w,(callFunc fc args).run P w=.ok (.enter fc args) w) (hO:SWO lt)
  (hcmp:∀x y,∃v:Int,@callw drOn P C A fc [.agg (nT x),.agg (nT y)] []=some (.v (.int .i64 v),[])/\decide (v<0)=lt x y)
  (l:List T) (hl:l.length<1000000) (w:World) (S:Nat->Prop) (κ:Kap) (vals:Array Value) (hvl:vals.size=2) (hS:∀g,S g->g<w.heap.size)
  (hv:∀(i:Nat) (a:AV) (x:Value),[AV.row 1000 k 0 l.length,.fn fc []][i]?=some a->vals[i]?=some x->VRel S κ (Dm (lentR k ty (l.map nT))) w a x)
  (hms:∀b ent,look (lentR k ty (l.map nT)) b=some ent->EntAt S κ (Dm (lentR k ty (l.map nT))) w (κ b) ent):Calls P (ρ.f 6) vals w (Left S κ (lentR k ty (l.map nT)) (lentR k ty ((sortS lt l).map nT)) (.tup []) w):=by
 obtain⟨v0,v1,rfl⟩:∃v0 v1,vals=#[v0,v1]:=by
  rcases vals with⟨vs⟩
  match vs,hvl with
  |[a,b],_=>exact⟨a,b,rfl⟩
 have h0:=hv 0 _ v0 rfl rfl;have h1:=hv 1 _ v1 rfl rfl
 obtain rfl:v1=.func (.func fc) #[] #[]:=by
  cases h1 with
  |c h =>
    cases h with
    |fn _ _ vs hlen _=>simp_all
  |fn _ _ vs hlen _=>simp_all
 have hent:=hms 1000 _ (show look (lentR k ty (l.map nT)) 1000=some ⟨k,ty,l.map nT,false⟩by simp[lentR,look]);have hcell:=hent.1 (.inr hk0)
 have left:∀w':World,w'.os=w.os->w'.tape=w.tape->OutD w w'->w.heap.size<=w'.heap.size->(∀g,g<w.heap.size->(∀c,κ 1000≠some (g,c))->w'.heap[g]?=w.heap[g]?)->CellAt S κ (Dm (lentR k ty ((sortS lt l).map nT))) w' (κ 1000) ⟨k,ty,(sortS lt l).map nT,false⟩->Left S κ (lentR k ty (l.map nT)) (lentR k ty ((sortS lt l).map nT)) (.tup []) w (.returned (.tuple #[])) w':=by
  intro w' p1 p2 p3 p4 p5 p6;refine⟨.tuple #[],S,κ,rfl,p1,p2,p3,p4,λg hg h=>p5 g hg (λc=>h 1000 c (zxl.2 rfl)),λ_ h=>h,λ_ h=>.inl h,λg h=>zca (hS g h) p4,λ_ _=>rfl,λb g c hb hd _=>?_,λb b' g c c' hb hb' _ _=>?_,λb ent hb=>?_,?_⟩
  ·have:=zxl.1 hd;omega
  ·rw[zxl.1 hb,zxl.1 hb']
  ·obtain⟨rfl,rfl⟩:=zFm hb;exact⟨zxl.2 rfl,.of (.inr hk0) p6⟩
  ·exact .tup [] #[] rfl (λj c x h=>by simp at h)
 have hlen:=zJo hO l;generalize hnl:l.length=n at h0
 cases h0 with
 |row0 _ _ hd hk =>
   refine(AnyF.slices_SortFunc_none L none 0 _ w).mono ?_
   rintro e w' ⟨rfl,rfl⟩
   refine left w' rfl rfl .of (zaX _) (λ_ _ _=>rfl) ?_
   simp_all
 |row _ _ _ _ g c off' cap hd hk hncap ho hc =>
   subst hnl;obtain rfl:off'=0:=by simpa using ho
   have hcc:=hc rfl;rw[hk]at hcell;obtain⟨_,cells,g1,g2,g3,g4,g5,g6⟩:=hcell;simp only at g1 g2 g3 g4 g6;rw[zad]at g3;by_cases hl0:l.length=0
   · rw[hl0];refine(AnyF.slices_SortFunc_none L (some ⟨g,0,none⟩) cap _ w).mono ?_
     rintro e w' ⟨rfl,rfl⟩
     refine left w' rfl rfl .of (zaX _) (λ_ _ _=>rfl) ?_;have hs0:sortS lt l=[]:=zcU (by omega);rw[hs0,hk];exact⟨by simp,cells,g1,g2,by simp,g4,g5,by simp⟩
   have cl:∀i,min i (l.length-1)<l.length:=λi=>by omega
   let enc:Nat->List Value:=λi=>(List.range k).map λj=>cells[min i (l.length-1)*k+j]!
   have hek:∀i,(enc i).length=k:=λi=>by simp[enc]
   have hin:∀i j,j<k->min i (l.length-1)*k+j<cells.size:=λi j hj=>by
    have h1:(min i (l.length-1)+1)*k<=c*k:=zbw _ (by have:=cl i;omega)
    grind
   have hcl:∀i j,j<k->∃a,(nT (atS l i))[j]?=some a/\(cells[min i (l.length-1)*k+j]!).oneCell'=true/\CRel S w a cells[min i (l.length-1)*k+j]!:=λi j hj=>by
    have hx:j<(nT (atS l i)).length:=by rw[hn];exact hj
    obtain⟨u,q1,q2,_,q4⟩:=g6 (min i (l.length-1)) j (nT (atS l i)) ((nT (atS l i))[j]) (by
     unfold atS
     simp_all) (zaa hx)
    simp_all
   have heo:∀i,∀v∈enc i,v.oneCell'=true:=λi v hv=>by
    obtain⟨j,hj,rfl⟩:=zbs.1 hv
    simp_all
   let cf:Nat->Nat->Int:=λi j=>(hcmp (atS l i) (atS l j)).choose
   have hcf:∀i j,@callw drOn P C A fc [.agg (nT (atS l i)),.agg (nT (atS l j))] []=some (.v (.int .i64 (cf i j)),[])/\decide (cf i j<0)=lt (atS l i) (atS l j):=λi j=>(hcmp (atS l i) (atS l j)).choose_spec
   have hlt:ltOf cf=λi j=>lt (atS l i) (atS l j):=funext λi=>funext λj=>(hcf i j).2
   have hOc:SWO (ltOf cf):=by rw[hlt];exact swoAt hO l
   have hgw:g<w.heap.size:=by
    rcases ziu g w.heap.size with h|h
    ·exact h
    ·simp_all
   have oth:∀(m:Nat) (dk:Array Nat) (os:Array Obj) (q:Nat),q<w.heap.size->q≠g->(sortWorldK enc k w g 0 m dk os).heap[q]?=w.heap[q]?:=λm dk os q hq hqg=>by
    show((w.heap.modify g _)++os)[q]?=_
    grind
   have hSg:∀q,S q->q≠g:=λq hq e=>g5 (e▸hq)
   have sw:∀(m:Nat) (dk:Array Nat) (os:Array Obj) (q:Nat),S q->(sortWorldK enc k w g 0 m dk os).heap[q]?=w.heap[q]?:=λm dk os q hq=>oth m dk os q (hS q hq) (hSg q hq)
   have szw:∀(m:Nat) (dk:Array Nat) (os:Array Obj),w.heap.size<=(sortWorldK enc k w g 0 m dk os).heap.size:=λm dk os=>by show _<=((w.heap.modify g _)++os).size;simp
   have agg:∀(m:Nat) (dk:Array Nat) (os:Array Obj) (i:Nat),CRel S (sortWorldK enc k w g 0 m dk os) (.agg (nT (atS l i))) (.agg (enc i).toArray):=λm dk os i=>by
    refine .agg _ _ (by simp[hek,hn]) (λx hx=>heo i x (by simpa using hx)) (λj a x ha hx=>?_);have hj:j<k:=by have:=(zam.1 ha).1;rw[hn]at this;exact this
    obtain⟨a',e1,_,e3⟩:=hcl i j hj;rw[ha]at e1;injection e1 with e1
    have:x=cells[min i (l.length-1)*k+j]!:=by simp only[enc,List.getElem?_toArray,zbC,List.getElem?_range hj,zbg]at hx;injection hx with hx;exact hx.symm
    rw[this,e1];exact e3.mono (λ_ h=>h) (sw m dk os)
   have hcmpL:CmpLays P fc #[] enc k cf g 0 (Array.range l.length).size w:=by
    intro m os dk hdk x y
    have ok:=(@zuO drOn P C A fc _ _ _ _ (hcf x y).1).2 (sortWorldK enc k w g 0 m dk os) S noK #[.agg (enc x).toArray,.agg (enc y).toArray] rfl (λq hq=>zca (hS q hq) (szw m dk os))
     (λi a v ha hv=>by
      match i,ha,hv with
      |0,ha,hv=>simp at ha hv;subst ha hv;exact .c (agg m dk os x)
      |1,ha,hv=>simp at ha hv;subst ha hv;exact .c (agg m dk os y)
      |i+2,ha,_=>simp at ha) (λb ent hb=>by simp[look]at hb) (λb b' g c c' hb=>by simp[Dm,look]at hb)
    refine Calls.mono ok ?_
    rintro e w' ⟨v,S',κ',rfl,q1,q2,q3,q4,q5,_,_,_,_,_,_,_,q6⟩
    have hv:v=.int .i64 (cf x y):=by
     have q6:CRel S' w' (.v (.int .i64 (cf x y))) v:=q6
     cases q6 with
     |v _=>rfl
    refine⟨by rw[hv],w'.drawn-(sortWorldK enc k w g 0 m dk os).drawn,(w'.heap.toList.drop (sortWorldK enc k w g 0 m dk os).heap.size).toArray,?_⟩;generalize sortWorldK enc k w g 0 m dk os=W at q1 q2 q3 q4 q5
    have hh:w'.heap=W.heap++(w'.heap.toList.drop W.heap.size).toArray:=by
     apply Array.ext_getElem?;intro q;rw[zf0];split
     ·rename_i hq;exact q5 q hq (λb c hb=>by simp[Dm,look]at hb)
     ·rename_i hq;simp only[List.getElem?_toArray,zb4,zed];congr 1;omega
    have hd:w'.drawn=W.drawn+(w'.drawn-W.drawn):=by have:=q3.2 trivial;omega
    have ho:=q3.1;rcases w' with⟨h',t',d',o',u'⟩
    rcases W with⟨h,t,d,o,u⟩
    simp only at q1 q2 hh hd ho ⊢;subst q1 q2 ho;simp only[grow,World.drewN];rw[<-hh,<-hd]
   have hH:HoldsK enc k w g 0 (Array.range l.length):=by
    intro j hj;rw[size_flatK,zjP]at hj;have hj1:j / k<l.length:=(zgy hk0).2 hj;have hj2:j % k<k:=zix _ hk0;have hjc:j<cells.size:=by rw[g2];exact zca hj (zbw _ g3)
    have e:(flatK enc k (Array.range l.length))[j]! = cells[j]!:=by rw[get_flatK _ _ _ _ (by simp_all),getElem!_pos (Array.range l.length) _ (by simp_all),Array.getElem_range];rw[getElem!_pos (enc (j / k)) _ (by rw[hek];exact hj2)];simp only[enc,zgo,List.getElem_range];rw[zhp (by omega),zd4,Nat.div_add_mod]
    rw[e,zaY];refine⟨?_,?_⟩
    · unfold World.cell?
      simp_all
    · unfold World.frozen?
      simp_all
   have S0:=AnyQ.slices_SortFunc_eq L k aE zE enc hek heo cf hOc fc #[] g 0 cap (Array.range l.length) w eg hcmpL hH hgw (by grind);rw[zjP,hlt]at S0;refine S0.mono ?_
   rintro e w' ⟨rfl,n',os,rfl⟩
   obtain⟨⟨p1,_,p3⟩,_⟩:=pdqAt hO l;have hsr:sortS lt l=(pdq (λi j=>lt (atS l i) (atS l j)) (Array.range l.length) 0 l.length (Lib.bitLen l.length) true true).toList.map (atS l):=rfl;generalize pdq (λi j=>lt (atS l i) (atS l j)) (Array.range l.length) 0 l.length (Lib.bitLen l.length) true true=d at p1 p3 hsr;rw[zjP]at p1;refine left _ rfl rfl .of (szw _ _ _) (λq hq hqk=>oth _ _ _ q hq (λe=>hqk c (by rw[e];exact hk))) ?_;rw[hk];refine⟨λcs hcs=>by grind,putCells id 0 (flatK enc k d) cells,?_,by simp[putCells,g2],by simp_all,g4,g5,λi j cs a hi hj=>?_⟩
   ·show((w.heap.modify g _)++os)[g]?=_;rw[Array.getElem?_append_left (by simpa using hgw),Array.getElem?_modify,if_pos rfl,g1];rfl
   · simp only at hi hj ⊢;rw[hsr,List.map_map,zbC,zed]at hi
     have hid:i<d.size:=by
      rcases ziu i d.size with h|h
      ·exact h
      ·simp_all
     rw[zaU hid]at hi;simp only[zbg,Function.comp,zaf]at hi;subst hi;have hjk:j<k:=by have:=(zam.1 hj).1;rw[hn]at this;exact this
     obtain⟨a',e1,e2,e3⟩:=hcl d[i] j hjk;rw[hj]at e1;injection e1 with e1
     have hpos:i*k+j<d.size*k:=by have h1:(i+1)*k<=d.size*k:=zbw _ hid;rw[zgv]at h1;omega
     have hpc:i*k+j<cells.size:=by rw[g2];exact zca hpos (zbw _ (by omega))
     have e4:CRel S (sortWorldK enc k w g 0 n' d os) a cells[min d[i] (l.length-1)*k+j]!:=by rw[e1];exact e3.mono (λ_ h=>h) (sw _ _ _)
     refine⟨_,?_,e2,(λh=>absurd h (by decide)),λ_=>e4⟩;unfold putCells;rw[Array.getElem?_mapIdx,zaU hpc,zbg,if_pos ⟨zdh _,by rw[size_flatK];omega⟩,zjn,get_flatK _ _ _ _ hpos];have d1:(i*k+j) / k=i:=by rw[zd4,Nat.mul_add_div hk0,zgw hjk,zer]
     have d2:(i*k+j) % k=j:=by rw[zd4,zhq,zeA hjk]
     grind
 |c h=>cases h
def oSort(k:Nat)(ty:TypeId)(fc:FuncId)(nT:T->List AV)(lt:T->T->Bool)(args:List AV)(ms:Mem):Option (AV×Mem):=
 haveI:=Classical.propDecidable (∃l:List T,(args=[.row 1000 k 0 l.length,.fn fc []]/\ms=lentR k ty (l.map nT))/\l.length<1000000)
 if h:∃l:List T,(args=[.row 1000 k 0 l.length,.fn fc []]/\ms=lentR k ty (l.map nT))/\l.length<1000000 then some (.tup [],lentR k ty ((sortS lt h.choose).map nT))else none
theorem zA0(hinj:∀x y,nT x=nT y->x=y){l:List T}(hl:l.length<1000000):oSort k ty fc nT lt [.row 1000 k 0 l.length,.fn fc []] (lentR k ty (l.map nT))=some (.tup [],lentR k ty ((sortS lt l).map nT)):=by
 have hex:∃l':List T,([AV.row 1000 k 0 l.length,.fn fc []]=[.row 1000 k 0 l'.length,.fn fc []]/\lentR k ty (l.map nT)=lentR k ty (l'.map nT))/\l'.length<1000000:=⟨l,⟨rfl,rfl⟩,hl⟩
 unfold oSort;rw[dif_pos hex];have hsp:=hex.choose_spec;generalize hex.choose=l' at hsp;have h2:=hsp.1.2;unfold lentR at h2;simp only[zax,zav,Ent.mk.injEq,true_and,and_true]at h2
 have:l=l':=by
  revert h2;generalize l'=r;clear hsp hex hl
  induction l generalizing r with
  |nil=>simp_all
  |cons x l ih=>intro h;cases r with
    |nil=>cases h
    |cons y r=>grind
 rw[this]
theorem zDS(L:SlLaysF0.n6 P ρ){f:FuncId}(hf:ρ.f 6=f)(he:enters P f=true)(aE:∀w,(isAgg (ρ.t 24)).run P w=.ok true w)(zE:∀w,(Go.sizeOf (ρ.t 24)).run P w=.ok k w)(hk0:0<k)(hn:∀x,(nT x).length=k)
  (eg:enters P fc=true) (hO:SWO lt)
  (hcmp:∀x y,∃v:Int,@callw drOn P C A fc [.agg (nT x),.agg (nT y)] []=some (.v (.int .i64 v),[])/\decide (v<0)=lt x y)
  {o:zcv} (ho:∀args ms,o f args ms=oSort k ty fc nT lt args ms):CallOK P (single f o):=by
 intro g args ms r ms' h;unfold single at h;split at h
 case isFalse=>cases h
 rename_i hg;subst hg;rw[ho]at h;unfold oSort at h;split at h
 case isFalse=>cases h
 rename_i hex;have hsp:=hex.choose_spec;generalize hex.choose=l at h hsp;obtain⟨⟨rfl,rfl⟩,hl⟩:=hsp;injection h with h;injection h with h1 h2;subst h1 h2;refine⟨he,λw S κ vals hvl hS hv hms _=>?_⟩;rw[<-hf];exact sort_calls L aE zE hk0 hn (zyp eg) hO hcmp l hl w S κ vals hvl hS hv hms
end
end Go.Ab
namespace Go.Ab
open Go.RowKit Go.Maps Go.Sort Go.Proofs Go.Shelf
def keysOf:List (List AV)->Option (List Int)
 |[]=>some []
 |[.v (.int .i64 k),_]::r=>(keysOf r).map (k::·)
 |_=>none
theorem keysOf_get:∀{es:List (List AV)} {ks:List Int},keysOf es=some ks->es.length=ks.length/\∀(i:Nat) (k:Int),ks[i]?=some k->∃v,es[i]?=some [.v (.int .i64 k),v]:=by
 intro es
 fun_induction keysOf es with
 |case1=>intro ks h;injection h with h;subst h;exact⟨rfl,λi k h=>by simp at h⟩
 |case2 k v r ih =>
   intro ks h;obtain⟨kr,h1,rfl⟩:=zcW.1 h;obtain⟨h2,h3⟩:=ih h1;refine⟨by simp[h2],λi x hx=>?_⟩
   match i,hx with
   |0,hx=>simp only[zbR,zaf]at hx;subst hx;exact⟨v,rfl⟩
   |i+1,hx=>exact h3 i x hx
 |case3=>intro ks h;cases h
def oKeys(fk:FuncId):List AV->Option (AV×Mem)
 |[.mp es]=>some (.fn fk [.fa 0 [[.mp es]]],[])
 |_=>none
def zj6(fk:FuncId):List AV->Option (AV×Mem)
 |[.fn f [.fa 0 [[.mp es]]]]=>match keysOf es with
   |some ks=>if f=fk/\es.length<=1000000/\(∀k∈ks,-9223372036854775808<=k/\k<=9223372036854775807)/\ks.Nodup then some (.sl 1 ((ks.mergeSort leI).map λk=>[.v (.int .i64 k)]),[])else none
   |none=>none
 |_=>none
variable{P:Program}{ρ ρ':Ren}
theorem one_arg{a:AV}{vals:Array Value}(h:vals.size=[a].length):∃v,vals=#[v]:=by
 rcases vals with⟨vs⟩
 match vs,h with
 |[v],_=>exact⟨v,rfl⟩
theorem keys_ok(L:SlLaysZI.n7 P ρ){f fk:FuncId}(hf:ρ.f 7=f)(hk:ρ.f 10=fk)(he:enters P f=true){o:zcv}(ho:∀args ms,o f args ms=match ms with|[]=>oKeys fk args|_=>none):CallOK P (single f o):=by
 intro g args ms r ms' h;unfold single at h;split at h
 case isFalse=>cases h
 rename_i hg;subst hg;rw[ho]at h;split at h
 case h_2=>cases h
 unfold oKeys at h;split at h
 case h_2=>cases h
 rename_i es;injection h with h;injection h with h1 h2;subst h1 h2;refine⟨he,λw S κ vals hvl hS hv _ _=>?_⟩;obtain⟨v0,rfl⟩:=one_arg hvl;have h0:=(hv 0 _ v0 rfl rfl).mp_inv
 cases h0 with
 |mp _ b en clock hSb hg hlen hb hi h2 hkk hvv =>
   have c:=(callsIn_wide (n:=6)).1 (AnyZI.keys_in L Fence.wide 6 trivial rfl (some b) w);rw[hf,hk]at c;refine c.mono ?_
   rintro e w' ⟨rfl,rfl⟩
   have hpush:(w.alloc (.cells #[.map (some b)] (ρ.t 23))).heap=w.heap.push (.cells #[.map (some b)] (ρ.t 23)):=rfl;have hw:∀q,S q->(w.alloc (.cells #[.map (some b)] (ρ.t 23))).heap[q]?=w.heap[q]?:=λq hq=>Below.heap_alloc w _ q (hS q hq)
   refine⟨_,λq=>S q\/q=w.heap.size,κ,rfl,rfl,rfl,.of,by simp,λq hq _=>Below.heap_alloc w _ q hq,λ_ h=>.inl h,λq hq=>?_,λq hq=>?_,λ_ _=>rfl,λb g c _ hd=>by simp[Dm,look]at hd,λb b' g c c' hd=>by simp[Dm,look]at hd,λb ent hb=>by simp[look]at hb,?_⟩
   · rcases hq with hq|rfl
     ·exact .inl hq
     ·exact .inr (.inl (zaX _))
   · rcases hq with hq|rfl
     ·have:=hS q hq;simp;omega
     ·simp
   · refine .fn _ _ _ rfl (λj c x hc hx=>?_)
     match j,hc,hx with
     |0,hc,hx=>simp at hc hx;subst hc hx;exact .bx _ _ _ (.inr rfl) ⟨by simp[World.cell?,hpush],rfl⟩ (CRel.mono (λ_ h=>.inl h) hw (.mp _ b en clock hSb hg hlen hb hi h2 hkk hvv))
theorem zG6(L:SlLaysZI.n6 P ρ)(Lk:SlLaysZI.n10 P ρ')(hs:AnyZI.SortsIn P ρ Fence.wide 4){f fk:FuncId}(hf:ρ.f 6=f)(hk:ρ'.f 10=fk)(hi64:P.underlying (ρ'.t 26)=some (.int .i64))(he:enters P f=true)(h9:enters P (ρ.f 9)=true)(hek:enters P (ρ'.f 10)=true)
  {o:zcv} (ho:∀args ms,o f args ms=match ms with|[]=>zj6 fk args|_=>none):CallOK P (single f o):=by
 intro g args ms r ms' h;unfold single at h;split at h
 case isFalse=>cases h
 rename_i hg;subst hg;rw[ho]at h;split at h
 case h_2=>cases h
 unfold zj6 at h;split at h
 case h_2=>cases h
 rename_i fq es;split at h
 case h_2=>cases h
 rename_i ks hks;split at h
 case isFalse=>cases h
 rename_i hc;obtain⟨rfl,hl,hwf,hnd⟩:=hc;injection h with h;injection h with h1 h2;subst h1 h2;refine⟨he,λw S κ vals hvl hS hv _ _=>?_⟩;obtain⟨v0,rfl⟩:=one_arg hvl;obtain⟨vs,rfl,hvs,hp⟩:=(hv 0 _ v0 rfl rfl).fn_inv;obtain⟨vb,rfl⟩:=one_arg hvs;have hbx:=(hp 0 _ vb rfl rfl).fa_inv
 cases hbx with
 |fa _ _ _ _ hz _ _ _=>have:=hz _ (zcr.2 rfl);simp at this
 |bx _ g u hSg hcell hmp =>
 cases hmp with
 |mp _ b en clock hSb hg hlen hb hi h2 hkk hvv =>
   obtain⟨e1,e2⟩:=keysOf_get hks;have hgl:g<w.heap.size:=hS g hSg
   have hkeys:en.toList.map (·.key)=ks.map (Value.int .i64):=by
    apply zeB
    ·simp;omega
    ·intro i h3 h4;simp at h3 h4;obtain⟨v,hv'⟩:=e2 i ks[i] (zaa h4);have h5:=hkk i _ _ en[i] hv' (zaU h3);simp only[zgo,Array.getElem_toList];generalize en[i].key=q at h5;cases h5;rfl
   have hread:∀x∈en.toList,∃k,k∈ks/\x.key=.int .i64 k:=λx hx=>by have:x.key∈ks.map (Value.int .i64):=hkeys▸zef hx;obtain⟨k,h3,h4⟩:=zbs.1 this;exact⟨k,h3,h4.symm⟩
   let R:Value->Option (DataW Unit×List MemPlace):=λ_=>some (.lit (.bool true),[])
   have hrd:∀x∈en.toList,∀k,x.key=.int .i64 k->WideElems.rd P (ρ'.t 26) R x=some (.int .i64 k,.lit (.bool true)):=λx hx k hk'=>by
    obtain⟨k',h3,h4⟩:=hread x hx;rw[hk']at h4;injection h4 with _ h4;subst h4;have h5:=hwf k h3
    have hw5:(Lit.int .i64 k).wf=true:=by simp only[Lit.wf,zaO,decide_eq_true_eq];exact⟨h5.1,h5.2⟩
    unfold WideElems.rd;rw[hk'];simp[keyOf,hi64,mapKey,R,hw5]
   let D0:DataW Unit:=.map ((en.toList.map (WideElems.rg P (ρ'.t 26) R)).foldr DataW.insert [])
   have hown:w.ownsMap P (ρ'.t 26) R b es.length D0:=by
    refine⟨en,clock,hg,⟨by unfold maxLen;omega,⟨λx hx=>?_,?_,?_⟩,λx hx=>?_⟩,by omega,rfl⟩
    ·obtain⟨i,h3,rfl⟩:=List.getElem_of_mem hx;simp at h3;exact hb i _ (by simp[h3])
    ·rw[List.Nodup,zcj];intro i j h3 h4 hij;simp at h3 h4 ⊢;exact Nat.ne_of_lt (hi i j _ _ hij (by simp[h3]) (by simp[h4]))
    ·rw[hkeys];exact List.Pairwise.map _ (λx y hxy h=>hxy (by injection h)) hnd
    ·obtain⟨k,_,h4⟩:=hread x hx;exact⟨_,hrd x hx k h4⟩
   have hperm:(intKeys D0).Perm ks:=by
    have h3:((en.toList.map (WideElems.rg P (ρ'.t 26) R)).foldr DataW.insert []).Perm (en.toList.map (WideElems.rg P (ρ'.t 26) R)):=WideShapes.sorted_perm _;refine(h3.map λp=>Go.intOf p.1).trans (.of_eq ?_);rw[List.map_map];apply zeB
    ·simp;omega
    · intro i h4 h5;simp at h4
      have h6:en[i].key=.int .i64 ks[i]:=by have:=congrArg (λl=>l[i]?) hkeys;simpa[h4,h5]using this
      simp only[zgo,Array.getElem_toList,Function.comp];unfold WideElems.rg;rw[hrd _ (by simp) _ h6];rfl
   have hsz:size D0=es.length:=by show List.length _=_;rw[length_sorted];simp[hlen]
   have hseq:=AnyZI.keys_gives Lk Fence.wide 2 trivial rfl (by omega) g b es.length D0 w hgl hcell.1 hown;have c:=AnyZI.sorted_in L Fence.wide 5 trivial trivial trivial trivial rfl (by omega) hs (zyp h9) (ρ'.f 10) #[.pointer (some ⟨g,0,none⟩)] trivial (zyp hek) _ _ (by rw[hsz];unfold maxLen;omega) (by rw[hsz];omega) w hseq;rw[hf,hk]at c;refine((callsIn_wide (n:=5)).1 c).mono ?_
   rintro e w' ⟨v,ss,rfl,hS0,hrow,hnil,hB⟩
   have hw:∀q,S q->w'.heap[q]?=w.heap[q]?:=λq hq=>hB.block q (hS q hq)
   have hss:ss.mergeSort leI=ks.mergeSort leI:=mergeSort_of_perm_i (hS0.trans hperm);have hrow2:w'.ownsRow w.heap.size (ρ.t 26) 1 v ss.length ((ks.mergeSort leI).map encZ):=by rw[<-hss];exact hrow
   have hlen2:ss.length=(ks.mergeSort leI).length:=by rw[<-hss];simp
   refine⟨v,λq=>S q\/(w.heap.size<=q/\q<w'.heap.size),κ,rfl,hB.os,hB.tape,⟨hB.output,λd=>d.elim⟩,hB.size,λq hq _=>hB.block q hq,λ_ h=>.inl h,λq hq=>?_,λq hq=>?_,λ_ _=>rfl,λb g c _ hd=>by simp[Dm,look]at hd,λb b' g c c' hd=>by simp[Dm,look]at hd,λb ent hb=>by simp[look]at hb,?_⟩
   · rcases hq with hq|hq
     ·exact .inl hq
     ·exact .inr (.inl hq.1)
   · rcases hq with hq|hq
     ·exact zca (hS q hq) hB.size
     ·exact hq.2
   · show CRel _ w' (.sl 1 _) v;rcases hrow2.2 with⟨rfl,h0⟩|⟨gb,cap,cur,rfl,hbase,hgb,r1,r2,r3,r4⟩
     ·have:ks.mergeSort leI=[]:=zcU (by omega);rw[this];exact .sl 1 [] none 0 0 (λ_ _=>undef) rfl (zaX _) (λcs h=>by simp at h) (.inl rfl) (λi j cs c h=>by simp at h)
     · refine .sl 1 _ _ _ cap (λi _=>.int .i64 ((ks.mergeSort leI).getD i 0)) (by rw[zad,hlen2]) r1 (λcs h=>?_) (.inr ⟨⟨gb,0,none⟩,rfl,.inr ⟨hbase,?_⟩,λi j cs c hi hj=>?_⟩) (λi j cs c hi hj=>?_)
       ·obtain⟨k,_,rfl⟩:=zbs.1 h;rfl
       ·exact(zcM.1 hgb).1
       · obtain⟨k,h3,rfl⟩:=zbs.1 (zaq hi)
         match j,hj with
         |0,hj=>rw[zbC]at hi;obtain⟨k',h4,h5⟩:=zcW.1 hi;refine⟨hrow2.cells rfl (i*1+0) _ ?_,rfl⟩;rw[Nat.mul_one,zer,zbC,h4,zfM,h4];rfl
       · obtain⟨k,h3,rfl⟩:=zbs.1 (zaq hi)
         match j,hj with
         |0,hj=>rw[zbC]at hi;obtain⟨k',h4,h5⟩:=zcW.1 hi;simp only[zax,AV.v.injEq,Value.int.injEq,true_and,and_true]at h5;simp only[zbR,zaf]at hj;subst hj h5;rw[zfM,h4];exact .v _
end Go.Ab
namespace Go.Ab
open Go.RowKit Go.Proofs Go.Shelf
variable{P:Program}{ρ:Ren}
def oGrow(z:Nat)(e:TypeId):List AV->Option (AV×Mem)
 |[.v (.slice none 0 0),.v (.int .i64 n)]=>if 0<=n/\n<=1000000 then some (.new z e [],[])else none
 |_=>none
theorem grow_ok(L:Lays8.n4 P ρ){f:FuncId}(hf:ρ.f 4=f){i0:TypeInfo}{zv:Value}(hi:P.info? (ρ.t 25)=some i0)(hz:i0.zero=some zv)(hs:zv.cells.size=i0.size)(h0:0<i0.size)(hb:i0.bytes<=1000)(he:enters P f=true){o:zcv}
  (ho:∀args ms,o f args ms=match ms with|[]=>oGrow i0.size (ρ.t 25) args|_=>none):CallOK P (single f o):=by
 intro g args ms r ms' h;unfold single at h;split at h
 case isFalse=>cases h
 rename_i hg;subst hg;rw[ho]at h;split at h
 case h_2=>cases h
 unfold oGrow at h;split at h
 case h_2=>cases h
 rename_i n;split at h
 case isFalse=>cases h
 rename_i hn;injection h with h;injection h with h1 h2;subst h1 h2;refine⟨he,λw S κ vals hvl hS hv _ _=>?_⟩
 have hvals:vals=#[.slice none 0 0,.int .i64 (n.toNat:Int)]:=by
  rcases vals with⟨vs⟩
  match vs,hvl with
  |[a,b],_=>have ha:=(hv 0 _ a rfl rfl).v_inv;have hb:=(hv 1 _ b rfl rfl).v_inv;rw[ha,hb,zhV hn.1]
 subst hvals;rw[<-hf];by_cases hm:n.toNat=0
 · rw[hm];refine(Any8.slices_Grow_room L none 0 0 0 w (by omega) (by omega) (by omega) (by omega)).mono ?_
   rintro e w' ⟨rfl,rfl⟩
   exact⟨_,S,κ,rfl,rfl,rfl,.of,zaX _,λ_ _ _=>rfl,λ_ h=>h,λ_ h=>.inl h,hS,λ_ _=>rfl,λb g c _ hd=>by simp[Dm,look]at hd,λb b' g c c' hd=>by simp[Dm,look]at hd,λb ent hb=>by simp[look]at hb,h0,.inl ⟨rfl,rfl⟩⟩
 · refine(Any8.slices_Grow_grow L i0 zv hi hz h0 none 0 0 n.toNat [] w (by omega) (by omega) ?_ (by omega) (by simp) (λ_=>rfl) (λa h=>by cases h)).mono ?_
   ·have h1:(0+n.toNat)*i0.bytes<=1000000*1000:=Nat.mul_le_mul (by omega) hb;omega
   · rintro e w' ⟨rfl,rfl⟩
     have hge:=grownCap_ge w (0+n.toNat) 0 (ρ.t 25);have hle:=grownCap_le_maxLen w (0+n.toNat) 0 (ρ.t 25) (by unfold maxLen;omega);generalize grownCap w (0+n.toNat) 0 (ρ.t 25)=c at hge hle ⊢;refine⟨_,S,κ,rfl,rfl,rfl,.of,by simp,λq hq _=>Below.heap_alloc w.drew _ q hq,λ_ h=>h,λ_ h=>.inl h,λq hq=>by have:=hS q hq;simp;omega,λ_ _=>rfl,λb g c _ hd=>by simp[Dm,look]at hd,λb b' g c c' hd=>by simp[Dm,look]at hd,λb ent hb=>by simp[look]at hb,h0,.inr ⟨w.heap.size,c,.inl (zaX _),rfl,EntAt.of (.inr h0) ⟨by simp,?_⟩⟩⟩;refine⟨_,heap_alloc_new w.drew _,?_,zdh _,?_,λhs=>by have:=hS _ hs;omega,λi j cs a hi=>by simp at hi⟩
     ·simp only[Array.size_append,size_zeroCells,hs,List.size_toArray,zcZ,zaY,zjn];rw[<-zdD];congr 1;omega
     ·show c<=maxLen;omega
end Go.Ab
namespace Go.Ab
open Go.RowKit
variable[Dr]
theorem zF8{P:Program}{C:Cfg}{F:AnnF}{f:FuncId}{args:List AV}{x:Value}{ms:Mem}(h:callw P C F f args []=some (.v x,ms))(w:World)(vals:Array Value)(hl:vals.size=args.length)
  (hr:∀(k:Nat) (a:AV) (y:Value),args[k]?=some a->vals[k]?=some y->VRel (λg=>g<w.heap.size) (λ_=>none) (λ_=>False) w a y):Calls P f vals w λe w'=>e=.returned x/\Below w.heap.size w w':=by
 obtain⟨_,h2⟩:=zuO f args [] (.v x) ms h
 have h3:=h2 w (λg=>g<w.heap.size) (λ_=>none) vals hl (λg hg=>hg) (λk a y ha hy=>(hr k a y ha hy).mono (λ_ h=>h) (λ_ _=>rfl) (λ_ h=>h.elim) (λ_ h=>h.elim))
  (λb ent hb=>by simp[look]at hb) (λb b' g c c' hb=>by simp[Dm,look]at hb)
 refine h3.mono ?_
 rintro e w' ⟨y,S',_,rfl,hos,htape,hout,hsz,hold,hsup,_,_,_,_,_,_,hres⟩
 have hy:y=x:=by have:CRel S' w' (.v x) y:=hres;cases this;rfl
 subst hy;exact⟨rfl,hos,htape,hout.1,hsz,λg hg=>hold g hg (λb c hb=>by simp[Dm,look]at hb)⟩
end Go.Ab
namespace Go.Ab
open Go.RowKit
variable[Dr]
section
variable{w0:World}{S0:Nat->Prop}{κ0:Kap}{K:Nat->Prop}{N:Nat}{S:Nat->Prop}{κ:Kap}{T:Nat->AV}{L:Nat->Option Ent}{a:Act}{w:World}
theorem Good.rebase(h:Good w0 S0 κ0 K N S κ T L a w):Good w S κ (λb=>(L b).isSome=true) N S κ T L a w where
 defers:=h.defers
 size:=h.size
 os:=rfl
 tape:=rfl
 output:=.of
 grow:=zaX _
 old:=λ_ _ _=>rfl
 sup:=λ_ h=>h
 snew:=λ_ h=>.inl h
 slt:=h.slt
 par:=λ_ _=>rfl
 parK:=λ_ _ h=>h
 own:=λb _ c hb hl hk=>.inr ⟨b,c,hb,hl,hk⟩
 inj:=h.inj
 ents:=h.ents
 slots:=h.slots
theorem Good.mine(h:Good w0 S0 κ0 K N S κ T L a w){g:Nat}(hm:Mine w κ (λb=>(L b).isSome=true) g):Mine w0 κ0 K g:=by
 rcases hm with hm|⟨b,c,hb,hl,hk⟩
 ·exact .inl (zbP h.grow hm)
 ·exact h.own b g c hb hl hk
theorem Good.join{S':Nat->Prop}{κ':Kap}{T':Nat->AV}{L':Nat->Option Ent}{a':Act}{w':World}(h:Good w0 S0 κ0 K N S κ T L a w)(h2:Good w S κ (λb=>(L b).isSome=true) N S' κ' T' L' a' w'):Good w0 S0 κ0 K N S' κ' T' L' a' w' where
 defers:=h2.defers
 size:=h2.size
 os:=h2.os.trans h.os
 tape:=h2.tape.trans h.tape
 output:=h.output.trans h2.output
 grow:=zbP h.grow h2.grow
 old:=λg hg hK=>by
  rw[h2.old g (zca hg h.grow) ?_]
  ·exact h.old g hg hK
  · intro b c hl hk;by_cases hb:b<1000
    · rcases h.own b g c hb hl hk with q|⟨b',c',_,q2,q3⟩
      ·omega
      grind
    ·exact hK b c (h.parK b (by omega) hl) (by rw[<-h.par b (by omega)];exact hk)
 sup:=λg hg=>h2.sup g (h.sup g hg)
 snew:=λg hg=>by
  rcases h2.snew g hg with q|q
  ·exact h.snew g q
  ·exact .inr (h.mine q)
 slt:=h2.slt
 par:=λb hb=>(h2.par b hb).trans (h.par b hb)
 parK:=λb hb hl=>h.parK b hb (h2.parK b hb hl)
 own:=λb g c hb hl hk=>h.mine (h2.own b g c hb hl hk)
 inj:=h2.inj
 ents:=h2.ents
 slots:=h2.slots
def Far(S:Nat->Prop)(κ:Kap)(L:Nat->Option Ent)(w:World)(g:Nat):Prop:=g<w.heap.size/\¬S g/\∀b c,(L b).isSome=true->κ b≠some (g,c)
theorem Good.far{S':Nat->Prop}{κ':Kap}{T':Nat->AV}{L':Nat->Option Ent}{a':Act}{w':World}(h2:Good w S κ (λb=>(L b).isSome=true) N S' κ' T' L' a' w'){g:Nat}(hg:Far S κ L w g):w'.heap[g]?=w.heap[g]?/\Far S' κ' L' w' g:=by
 obtain⟨h1,h3,h4⟩:=hg
 have hno:¬Mine w κ (λb=>(L b).isSome=true) g:=λhm=>by
  rcases hm with hm|⟨b,c,_,hl,hk⟩
  ·omega
  ·exact h4 b c hl hk
 refine⟨h2.old g h1 h4,zca h1 h2.grow,λhs=>?_,λb c hl hk=>?_⟩
 · rcases h2.snew g hs with q|q
   ·exact h3 q
   ·exact hno q
 · by_cases hb:b<1000
   ·exact hno (h2.own b g c hb hl hk)
   ·exact h4 b c (h2.parK b (by omega) hl) (by rw[<-h2.par b (by omega)];exact hk)
theorem leaf{P:Program}{C:Cfg}{A:Ann}{call:zcv}{n:Nat}(hcall:CallOK P call)(hN:N<=1000){c:Code}{st st':St}{ex:Ex}(hev:aeval P C A N call (iter n) c st=some (ex,st'))
  (h:Good w0 S0 κ0 K N S κ (fs st).1 (fs st).2 a w) {Q:Exit->Act->World->Prop}
  (hQ:∀a' w' S' κ',Good w0 S0 κ0 K N S' κ' (fs st').1 (fs st').2 a' w'->(∀g,S g->S' g)->(∀g,Far S κ (fs st).2 w g->w'.heap[g]?=w.heap[g]?/\Far S' κ' (fs st').2 w' g)->(∀g,S g->w'.heap[g]?=w.heap[g]?)->Q ex.toExit a' w'):c.wp P Q a w:=by
 refine wp_mono (zCj hcall hN c st ex st' hev a w ⟨S,κ,h.rebase⟩) ?_
 rintro e a' w' ⟨rfl,S',κ',hg⟩
 refine hQ a' w' S' κ' (h.join hg) hg.sup (λg hf=>hg.far hf) (λg hs=>hg.old g (h.slt g hs) (λb c hl hk=>?_));obtain⟨ent,he⟩:=zaI.1 hl;have:=h.ents b ent he;rw[hk]at this;exact this.notS hs
theorem leafR{R:Fr}{T:Dic}{j id:Nat}{ops:Array Oper}{draw:Bool}{c:Code}{st st':St}(hb:R.fn.body=some c)(hc:regOf j c=some (.region id ops draw))(ht:tReg R T j st=some st')(hN:R.fn.ntmps<=1000)
  (h:Good w0 S0 κ0 K R.fn.ntmps S κ (fs st).1 (fs st).2 a w) {Q:Exit->Act->World->Prop}
  (hQ:∀a' w' S' κ',Good w0 S0 κ0 K R.fn.ntmps S' κ' (fs st').1 (fs st').2 a' w'->(∀g,S g->S' g)->(∀g,Far S κ (fs st).2 w g->w'.heap[g]?=w.heap[g]?/\Far S' κ' (fs st').2 w' g)->(∀g,S g->w'.heap[g]?=w.heap[g]?)->Q .normal a' w'):(Code.region id ops draw).wp R.P Q a w:=
 leaf (n:=0) (zuO (C:=R.C) (A:=R.F)) hN (tReg_sound hb hc ht (iter 0)) h hQ
theorem Good.forget{T':Nat->AV}(h:Good w0 S0 κ0 K N S κ T L a w)(hT:∀k,T' k=T k\/T' k=.bot):Good w0 S0 κ0 K N S κ T' L a w:=
 { h with
   slots:=λk=>by
    rcases hT k with e|e
    ·rw[e];exact h.slots k
    ·rw[e];exact .bot _ }
structure FarObj(S:Nat->Prop)(w:World)(κd:Kap)(Ld:Nat->Option Ent):Prop where
 ents:∀b ent,Ld b=some ent->EntAt S κd (λb=>(Ld b).isSome=true) w (κd b) ent
 inj:∀b b' g c c',(Ld b).isSome=true->(Ld b').isSome=true->κd b=some (g,c)->κd b'=some (g,c')->b=b'
theorem FarObj.mono{S':Nat->Prop}{w':World}{κd:Kap}{Ld:Nat->Option Ent}(h:FarObj S w κd Ld)(hS:∀g,S g->S' g)(hw:∀g,S g->w'.heap[g]?=w.heap[g]?)
  (hd:∀b g c,(Ld b).isSome=true->κd b=some (g,c)->w'.heap[g]?=w.heap[g]?/\¬S' g):FarObj S' w' κd Ld where
 ents:=λb ent hb=>(h.ents b ent hb).mono hS hw (λ_ h=>h) (λ_ _=>rfl) (λg c hk=>hd b g c (by simp[hb]) hk)
 inj:=h.inj
def overK(κ κd:Kap)(Ld:Nat->Option Ent):Kap:=λb=>if(Ld b).isSome=true then κd b else κ b
def overL(L Ld:Nat->Option Ent):Nat->Option Ent:=λb=>if(Ld b).isSome=true then Ld b else L b
theorem Good.focus(h:Good w0 S0 κ0 K N S κ T L a w){κd:Kap}{Ld:Nat->Option Ent}(hF:FarObj S w κd Ld)(hn:∀b,(Ld b).isSome=true->b<1000/\L b=none)
  (hfar:∀b g c,(Ld b).isSome=true->κd b=some (g,c)->Far S κ L w g/\Mine w0 κ0 K g):Good w0 S0 κ0 K N S (overK κ κd Ld) T (overL L Ld) a w:=by
 have hD1:∀b,(L b).isSome=true->(overL L Ld b).isSome=true:=λb hb=>by
  unfold overL
  grind
 have hκ1:∀b,(L b).isSome=true->overK κ κd Ld b=κ b:=λb hb=>by
  unfold overK
  grind
 have hD2:∀b,(Ld b).isSome=true->(overL L Ld b).isSome=true:=λb hb=>by
  unfold overL
  grind
 have hκ2:∀b,(Ld b).isSome=true->overK κ κd Ld b=κd b:=λb hb=>if_pos hb
 have hcase:∀b,(overL L Ld b).isSome=true->((Ld b).isSome=true/\overL L Ld b=Ld b/\overK κ κd Ld b=κd b)\/(¬(Ld b).isSome=true/\(L b).isSome=true/\overL L Ld b=L b/\overK κ κd Ld b=κ b):=λb hb=>by
  by_cases hd:(Ld b).isSome=true
  ·exact .inl ⟨hd,if_pos hd,if_pos hd⟩
  ·unfold overL at hb;rw[if_neg hd]at hb;exact .inr ⟨hd,hb,if_neg hd,if_neg hd⟩
 exact{ h with
  par:=λb hb=>by rw[<-h.par b hb];exact if_neg (λhd=>by grind)
  parK:=λb hb hl=>by
   rcases hcase b hl with⟨hd,_⟩|⟨_,hl,_⟩
   ·grind
   ·exact h.parK b hb hl
  own:=λb g c hb hl hk=>by
   rcases hcase b hl with⟨hd,_,e⟩|⟨_,hl,_,e⟩
   ·grind
   ·rw[e]at hk;exact h.own b g c hb hl hk
  inj:=λb b' g c c' hl hl' hk hk'=>by
   rcases hcase b hl with⟨hd,_,e⟩|⟨_,hl,_,e⟩
   · rcases hcase b' hl' with⟨hd',_,e'⟩|⟨_,hl',_,e'⟩
     ·rw[e]at hk;rw[e']at hk';exact hF.inj b b' g c c' hd hd' hk hk'
     ·rw[e]at hk;rw[e']at hk';exact absurd hk' ((hfar b g c hd hk).1.2.2 b' c' hl')
   · rcases hcase b' hl' with⟨hd',_,e'⟩|⟨_,hl',_,e'⟩
     ·rw[e]at hk;rw[e']at hk';exact absurd hk ((hfar b' g c' hd' hk').1.2.2 b c hl)
     ·rw[e]at hk;rw[e']at hk';exact h.inj b b' g c c' hl hl' hk hk'
  ents:=λb ent hb=>by
   rcases hcase b (by simp[hb])with⟨hd,e1,e2⟩|⟨hd,hl,e1,e2⟩
   ·rw[e1]at hb;rw[e2];have hE:=hF.ents b ent hb;exact hE.mono (λ_ h=>h) (λ_ _=>rfl) hD2 hκ2 (λg c hk=>⟨rfl,(hfar b g c hd hk).1.2.1⟩)
   ·rw[e1]at hb;rw[e2];have hE:=h.ents b ent hb;exact hE.mono (λ_ h=>h) (λ_ _=>rfl) hD1 hκ1 (λg c hk=>⟨rfl,by rw[hk]at hE;exact hE.notS⟩)
  slots:=λk=>(h.slots k).mono (λ_ h=>h) (λ_ _=>rfl) hD1 hκ1 }
theorem Good.thing(h:Good w0 S0 κ0 K N S κ T L a w){Ld:Nat->Option Ent}(hd:∀b ent,Ld b=some ent->L b=some ent)
  (hc:∀b ent,Ld b=some ent->ent.box=true->∀cs∈ent.es,∀x∈cs,∀v,VRel S κ (λb=>(L b).isSome=true) w x v->VRel S κ (λb=>(Ld b).isSome=true) w x v):FarObj S w κ Ld where
 ents:=λb ent hb=>by have hE:=h.ents b ent (hd b ent hb);exact zyo hE (λ_ h=>h) (λg c hk=>by rw[hk]at hE;exact hE.notS) (λhbx cs hcs x hx v hv=>hc b ent hb hbx cs hcs x hx v hv)
 inj:=λb b' g c c' hb hb'=>by obtain⟨e,he⟩:=zaI.1 hb;obtain⟨e',he'⟩:=zaI.1 hb';exact h.inj b b' g c c' (by simp[hd b e he]) (by simp[hd b' e' he'])
theorem Good.thingFar(h:Good w0 S0 κ0 K N S κ T L a w){Ld L':Nat->Option Ent}(hd:∀b ent,Ld b=some ent->L b=some ent)(hL:∀b,(L' b).isSome=true->(L b).isSome=true/\¬(Ld b).isSome=true):∀b g c,(Ld b).isSome=true->κ b=some (g,c)->Far S κ L' w g/\(b<1000->Mine w0 κ0 K g):=λb g c hb hk=>by
 obtain⟨e,he⟩:=zaI.1 hb;have hE:=h.ents b e (hd b e he);rw[hk]at hE;refine⟨⟨hE.lt,hE.notS,λb' c' hl' hk'=>?_⟩,λhb'=>h.own b g c hb' (by simp[hd b e he]) hk⟩;have:=h.inj b b' g c c' (by simp[hd b e he]) (hL b' hl').1 hk hk'
 simp_all
end
end Go.Ab
namespace Go.Ab
open Go.RowKit
variable[Dr]
section
variable{w0:World}{S0:Nat->Prop}{κ0:Kap}{K:Nat->Prop}{N:Nat}{S S':Nat->Prop}{κ κ':Kap}{a:Act}{w w':World}{st:St}
abbrev GoodS(w0:World)(S0:Nat->Prop)(κ0:Kap)(K:Nat->Prop)(N:Nat)(S:Nat->Prop)(κ:Kap)(st:St)(a:Act)(w:World):Prop:=Good w0 S0 κ0 K N S κ (get st.t) (look st.m) a w
theorem GoodS.del(h:GoodS w0 S0 κ0 K N S κ st a w)(b:Nat):GoodS w0 S0 κ0 K N S κ (del b st) a w:=by
 have:=Good.del h b;have e1:get (Ab.del b st).t=λk=>(get st.t k).kill b 4:=funext λk=>zot b st.t k
 have e2:look (Ab.del b st).m=killL b (look st.m):=funext λc=>ziq b st.m c
 grind
theorem GoodS.ren(h:GoodS w0 S0 κ0 K N S κ st a w){b s:Nat}(hb:b<1000)(hs:s<1000)(hbs:b≠s)(hL:look st.m s=none):GoodS w0 S0 κ0 K N S (λc=>if c=s then κ b else κ c) (renS b s st) a w:=by
 have:=Good.ren h hb hs hbs hL;have e1:get (renS b s st).t=λk=>(get st.t k).ren b s 4:=funext λk=>zDF b s st.t k
 have e2:look (renS b s st).m=renL b s (look st.m):=funext λc=>zAW hbs st.m c hL
 grind
theorem get_keep(t:Tab):∀(ks:List Nat) (j:Nat),get (ks.map λk=>(k,get t k)) j=get t j\/get (ks.map λk=>(k,get t k)) j=.bot
 |[],_=>.inr rfl
 |k::ks,j=>by
   simp only[zbJ,get];split
   ·simp_all
   ·exact get_keep t ks j
def trim(ks ds:List Nat)(st:St):St:=
 let s:=ds.foldl (λs b=>del b s) st
 { t:=ks.map λk=>(k,get s.t k),m:=sortM s.m }
theorem GoodS.dels:∀(ds:List Nat) {st:St},GoodS w0 S0 κ0 K N S κ st a w->GoodS w0 S0 κ0 K N S κ (ds.foldl (λs b=>Ab.del b s) st) a w
 |[],_,h=>h
 |b::ds,_,h=>GoodS.dels ds (h.del b)
theorem GoodS.trim(h:GoodS w0 S0 κ0 K N S κ st a w)(ks ds:List Nat):GoodS w0 S0 κ0 K N S κ (trim ks ds st) a w:=by
 have h1:=GoodS.dels ds h;have e2:look (Ab.trim ks ds st).m=look (ds.foldl (λs b=>Ab.del b s) st).m:=funext λc=>zuh _ c
 unfold GoodS;rw[e2];exact Good.forget h1 (λk=>get_keep _ ks k)
theorem GoodS.set(h:GoodS w0 S0 κ0 K N S κ st a w)(k:Nat)(x:AV)(hx:VRel S κ (λb=>(look st.m b).isSome=true) w x (a.tmps.getD k undef)):GoodS w0 S0 κ0 K N S κ { st with t:=(k,x)::st.t } a w:=
 { h with
   slots:=λj=>by
    simp only[get];split
    ·simp_all
    ·exact h.slots j }
theorem zsr:∀(m1 m2:Mem) (b:Nat),look (m1++m2) b=if(look m1 b).isSome=true then look m1 b else look m2 b
 |[],m2,b=>by simp[look]
 |(j,e)::r,m2,b=>by
   simp only[zgn,look];by_cases hb:b=j
   ·simp[hb]
   ·simp only[if_neg hb];exact zsr r m2 b
theorem GoodS.focus{t:Tab}{m md:Mem}{κd:Kap}(h:GoodS w0 S0 κ0 K N S κ ⟨t,m⟩ a w)(hF:FarObj S w κd (look md))(hn:∀b,(look md b).isSome=true->b<1000/\look m b=none)
  (hfar:∀b g c,(look md b).isSome=true->κd b=some (g,c)->Far S κ (look m) w g/\Mine w0 κ0 K g):GoodS w0 S0 κ0 K N S (overK κ κd (look md)) ⟨t,md++m⟩ a w:=by
 have:=Good.focus h hF hn hfar;have e:look (md++m)=overL (look m) (look md):=funext λb=>zsr md m b
 grind
structure Objs(w0:World)(κ0:Kap)(K:Nat->Prop)(S:Nat->Prop)(κ:Kap)(L:Nat->Option Ent)(w:World)(M:Nat->Option Mem)(κd:Nat->Kap):Prop where
 obj:∀i m,M i=some m->FarObj S w (κd i) (look m)
 far:∀i m b g c,M i=some m->(look m b).isSome=true->κd i b=some (g,c)->Far S κ L w g/\Mine w0 κ0 K g
 dis:∀i j m m' b b' g c c',M i=some m->M j=some m'->(look m b).isSome=true->(look m' b').isSome=true->κd i b=some (g,c)->κd j b'=some (g,c')->i=j
variable{M:Nat->Option Mem}{κd:Nat->Kap}{L L':Nat->Option Ent}
theorem Objs.none:Objs w0 κ0 K S κ L w (λ_=>none) κd where
 obj:=λ_ _ h=>by cases h
 far:=λ_ _ _ _ _ h=>by cases h
 dis:=λ_ _ _ _ _ _ _ _ _ h=>by cases h
theorem Objs.step(h:Objs w0 κ0 K S κ L w M κd)(hS:∀g,S g->S' g)(hf:∀g,Far S κ L w g->w'.heap[g]?=w.heap[g]?/\Far S' κ' L' w' g)(hw:∀g,S g->w'.heap[g]?=w.heap[g]?):Objs w0 κ0 K S' κ' L' w' M κd where
 obj:=λi m hi=>(h.obj i m hi).mono hS hw (λb g c hb hk=>⟨(hf g (h.far i m b g c hi hb hk).1).1,(hf g (h.far i m b g c hi hb hk).1).2.2.1⟩)
 far:=λi m b g c hi hb hk=>⟨(hf g (h.far i m b g c hi hb hk).1).2,(h.far i m b g c hi hb hk).2⟩
 dis:=h.dis
theorem Objs.kap(h:Objs w0 κ0 K S κ L w M κd)(hk:∀b g c,(L' b).isSome=true->κ' b=some (g,c)->∃b0 c0,(L b0).isSome=true/\κ b0=some (g,c0)):Objs w0 κ0 K S κ' L' w M κd where
 obj:=h.obj
 far:=λi m b g c hi hb hkd=>by
  obtain⟨⟨f1,f2,f3⟩,f4⟩:=h.far i m b g c hi hb hkd;refine⟨⟨f1,f2,λb' c' hl hk'=>?_⟩,f4⟩
  grind
 dis:=h.dis
theorem Objs.away{i:Nat}{md:Mem}{T:Nat->AV}(hg:Good w0 S0 κ0 K N S κ T L a w)(h:Objs w0 κ0 K S κ L w M κd)(hd:∀b ent,look md b=some ent->L b=some ent)
  (hc:∀b ent,look md b=some ent->ent.box=true->∀cs∈ent.es,∀x∈cs,∀v,VRel S κ (λb=>(L b).isSome=true) w x v->VRel S κ (λb=>(look md b).isSome=true) w x v)
  (hk:∀b,(look md b).isSome=true->b<1000) (hL:∀b,(L' b).isSome=true->(L b).isSome=true/\¬(look md b).isSome=true):Objs w0 κ0 K S κ L' w (λj=>if j=i then some md else M j) (λj=>if j=i then κ else κd j) where
 obj:=λj mj hj=>by
  split at hj
  ·rename_i e;injection hj with hj;subst hj;rw[if_pos e];exact Good.thing hg hd hc
  ·rename_i e;rw[if_neg e];exact h.obj j mj hj
 far:=λj mj b g c hj hb hkd=>by
  split at hj
  · rename_i e;injection hj with hj;subst hj;rw[if_pos e]at hkd;obtain⟨q1,q2⟩:=Good.thingFar hg hd hL b g c hb hkd
    simp_all
  ·rename_i e;rw[if_neg e]at hkd;obtain⟨⟨f1,f2,f3⟩,f4⟩:=h.far j mj b g c hj hb hkd;exact⟨⟨f1,f2,λb' c' hl hk'=>f3 b' c' (hL b' hl).1 hk'⟩,f4⟩
 dis:=λj j' mj mj' b b' g c c' hj hj' hb hb' hkj hkj'=>by
  have sees:∀b,(look md b).isSome=true->(L b).isSome=true:=λb hb=>by obtain⟨e,he⟩:=zaI.1 hb;simp[hd b e he]
  split at hj
  · rename_i e;injection hj with hj;subst hj;rw[if_pos e]at hkj;split at hj'
    ·omega
    ·rename_i e';rw[if_neg e']at hkj';exact absurd hkj ((h.far j' mj' b' g c' hj' hb' hkj').1.2.2 b c (sees b hb))
  · rename_i e;rw[if_neg e]at hkj;split at hj'
    ·rename_i e';injection hj' with hj';subst hj';rw[if_pos e']at hkj';exact absurd hkj' ((h.far j mj b g c hj hb hkj).1.2.2 b' c' (sees b' hb'))
    ·rename_i e';rw[if_neg e']at hkj';exact h.dis j j' mj mj' b b' g c c' hj hj' hb hb' hkj hkj'
def only(ks:List Nat):AV->Bool
 |.v _|.sl ..|.mp ..|.fp ..|.fa ..=>true
 |.row b _ _ _=>ks.contains b
 |.map b=>ks.contains b
 |.loc b _ _ _=>ks.contains b
 |_=>false
theorem zyD{D D':Nat->Prop}{ks:List Nat}(hD:∀b∈ks,D' b){x:AV}{v:Value}(ho:only ks x=true)(h:VRel S κ D w x v):VRel S κ D' w x v:=by
 cases x with
 |v x=>cases h with|c h=>exact .c h
 |sl z es=>exact .c h.sl_inv
 |mp es=>exact .c h.mp_inv
 |fp cs=>exact .c h.fp_inv
 |fa z es=>exact .c h.fa_inv
 |row b z i n =>
   have hb:=hD b (by simpa[only]using ho)
   cases h with
   |c h=>cases h
   |row0 _ _ hd hk=>exact .row0 _ _ hb hk
   |row _ _ _ _ g c off' cap hd hk hn ho hc=>exact .row _ _ _ _ g c off' cap hb hk hn ho hc
 |map b=>have hb:=hD b (by simpa[only]using ho);obtain⟨g,c,hd,hk,rfl⟩:=h.map_inv;exact .map b g c hb hk
 |loc b z i o=>have hb:=hD b (by simpa[only]using ho);obtain⟨g,c,hd,hk,rfl⟩:=h.loc_inv;exact .loc b z i o g c hb hk
 |_=>cases ho
def onlyM(md:Mem):Bool:=md.all λp=>!p.2.box||p.2.es.all λcs=>cs.all (only (md.map (·.1)))
theorem zKe{D:Nat->Prop}{md:Mem}(h:onlyM md=true):∀b ent,look md b=some ent->ent.box=true->∀cs∈ent.es,∀x∈cs,∀v,VRel S κ D w x v->VRel S κ (λb=>(look md b).isSome=true) w x v:=by intro b ent hb hbx cs hcs x hx v hv;have h1:=zbH.1 h (b,ent) (zmU hb);simp only[hbx,zaF,zei]at h1;have h2:=zbH.1 (zbH.1 h1 cs hcs) x hx;exact zyD (λb hb=>zi5 (by simpa[ids]using hb)) h2 hv
theorem toRow{D:Nat->Prop}{g c z:Nat}{e:TypeId}{cs:List AV}{xs:List (List AV)}(hE:EntAt S κ D w (some (g,c)) ⟨z,e,[cs],true⟩)(hz:z<=maxLen)(hx:xs.length=cs.length)
  (hv:∀(j:Nat) (x:AV) (u:Value),cs[j]?=some x->VRel S κ D w x u->xs[j]?=some [.v u]):∀κ' D',EntAt S κ' D' w (some (g,z)) ⟨1,e,xs,false⟩:=by
 intro κ' D';obtain⟨h1,cells,h2,h3,h4,h5,h6,h7⟩:=hE.1 (.inl rfl);have hcs:cs.length=z:=h1 cs (by simp)
 have hc:c=1:=by have:c<=1:=h5;simp only[zhX]at h4;omega
 subst hc
 have key:∀j,j<z->∃u,cells[j]?=some u/\u.oneCell'=true/\xs[j]?=some [.v u]:=λj hj=>by
  have hj':j<cs.length:=by omega
  obtain⟨u,u1,u2,u3,_⟩:=h7 0 j cs cs[j] rfl (zaa hj')
  grind
 refine EntAt.of (.inr (by show 0<1;omega)) ⟨λr hr=>?_,cells,h2,?_,?_,hz,h6,λi j r av hi hj=>?_⟩
 · obtain⟨j,hj⟩:=zcG.1 hr
   grind
 ·simpa using h3
 ·simp_all
 · obtain⟨u,u1,u2,hu⟩:=key i (by grind);rw[hi]at hu;injection hu with hu;subst hu
   cases j with
   |succ j=>simp at hj
   |zero=>simp at hj;subst hj;exact⟨u,by simpa using u1,u2,(λhb=>by cases hb),λ_=>.v u⟩
theorem GoodS.swap(h:GoodS w0 S0 κ0 K N S κ st a w){B g c c2:Nat}{e2:Ent}(hB:(look st.m B).isSome=true)(hB2:B<1000)(hk:κ B=some (g,c))(hE:∀κ' D',EntAt S κ' D' w (some (g,c2)) e2):GoodS w0 S0 κ0 K N S (overK κ (λ_=>some (g,c2)) (look [(B,e2)])) ⟨(Ab.del B st).t,(B,e2)::(Ab.del B st).m⟩ a w:=by
 have h1:=h.del B;have hlook:∀b,look (Ab.del B st).m b=killL B (look st.m) b:=λb=>ziq B st.m b
 have hone:∀b,(look [(B,e2)] b).isSome=true->b=B:=λb hb=>by
  simp only[look]at hb
  simp_all
 refine GoodS.focus (md:=[(B,e2)]) (t:=(Ab.del B st).t) (m:=(Ab.del B st).m) h1 ⟨λb ent hb=>?_,λb b' g' c1 c1' hb hb' _ _=>by grind⟩ (λb hb=>?_) (λb g' c' hb hkb=>?_)
 · have hbB:=hone b (by simp[hb]);subst hbB;simp only[look,if_true,zaf]at hb
   grind
 ·rw[hone b hb];refine⟨hB2,?_⟩;rw[hlook];simp[killL]
 · injection hkb with hkb;injection hkb with e1 _;subst e1;obtain⟨ent,he⟩:=zaI.1 hB;have hEB:=h.ents B ent he;rw[hk]at hEB;refine⟨⟨hEB.lt,hEB.notS,λb' c' hl hk'=>?_⟩,h.own B g c hB2 (by simp[he]) hk⟩;rw[hlook]at hl;unfold killL at hl;split at hl
   ·cases hl
   · rename_i hne;refine hne (h.inj b' B g c' c ?_ (by simp[he]) hk' hk)
     simp_all
theorem Objs.swap{B g c c2:Nat}{e2:Ent}(h:Objs w0 κ0 K S κ (look st.m) w M κd)(hB:(look st.m B).isSome=true)(hk:κ B=some (g,c)):Objs w0 κ0 K S (overK κ (λ_=>some (g,c2)) (look [(B,e2)])) (look ((B,e2)::(Ab.del B st).m)) w M κd:=by
 refine h.kap (λb g' c' hl hkb=>?_);unfold overK at hkb;split at hkb
 ·grind
 · rename_i hne;simp only[look]at hl hne;split at hl
   ·simp_all
   · have hlook:look (Ab.del B st).m b=killL B (look st.m) b:=ziq B st.m b;rw[hlook]at hl;unfold killL at hl
     grind
theorem GoodS.start{args:List AV}{vals:Array Value}{ms:Mem}{N:Nat}(hvl:vals.size=args.length)(hN:args.length<=N)(hS:∀g,S g->g<w.heap.size)
  (hv:∀(k:Nat) (a:AV) (x:Value),args[k]?=some a->vals[k]?=some x->VRel S κ (Dm ms) w a x) (hms:∀b ent,look ms b=some ent->EntAt S κ (Dm ms) w (κ b) ent)
  (hinj:∀b b' g c c',Dm ms b->Dm ms b'->κ b=some (g,c)->κ b'=some (g,c')->b=b'):GoodS w S κ (Dm ms) N S κ { t:=argTab 0 args,m:=ms } { tmps:=vals++Array.replicate (N-vals.size) undef,defers:=[] } w where
 defers:=rfl
 size:=by simp;omega
 os:=rfl
 tape:=rfl
 output:=.of
 grow:=zaX _
 old:=λ_ _ _=>rfl
 sup:=λ_ h=>h
 snew:=λ_ h=>.inl h
 slt:=hS
 par:=λ_ _=>rfl
 parK:=λ_ _ h=>h
 own:=λb g c' hb' hl hk=>.inr ⟨b,c',hb',hl,hk⟩
 inj:=hinj
 ents:=λb ent he=>hms b ent he
 slots:=λk=>by
  rw[zx1];simp only[zdh,if_true,zjn]
  cases hk:args[k]? with
  |none=>exact .bot _
  |some a =>
    have hlt:k<vals.size:=by have:=(zam.1 hk).1;omega
    have:(vals++Array.replicate (N-vals.size) undef).getD k undef=vals[k]:=by rw[zcH,zf0,if_pos hlt,zaU hlt];rfl
    rw[this];exact hv k a _ hk (zaU hlt)
theorem zGL:∀(ds:List Nat) (st:St) (b:Nat),(look (ds.foldl (λs b=>del b s) st).m b).isSome=true->(look st.m b).isSome=true
 |[],_,_,h=>h
 |d::ds,st,b,h=>by
   have h1:=zGL ds (del d st) b h;have h2:look (del d st).m b=killL d (look st.m) b:=ziq d st.m b;rw[h2]at h1;unfold killL at h1
   grind
theorem zAX(ks ds:List Nat)(st:St)(b:Nat)(h:(look (trim ks ds st).m b).isSome=true):(look st.m b).isSome=true:=by have e:look (trim ks ds st).m b=look (ds.foldl (λs b=>del b s) st).m b:=zuh _ b;rw[e]at h;exact zGL ds st b h
def Now(w0:World)(S0:Nat->Prop)(κ0:Kap)(K:Nat->Prop)(N:Nat)(M:Nat->Option Mem)(κd:Nat->Kap)(st:St)(a:Act)(w:World):Prop:=
 ∃S κ,GoodS w0 S0 κ0 K N S κ st a w/\Objs w0 κ0 K S κ (look st.m) w M κd
theorem Now.trim{N:Nat}{M:Nat->Option Mem}{κd:Nat->Kap}{st st':St}(h:Now w0 S0 κ0 K N M κd st a w)(ks ds:List Nat)(e:trim ks ds st=st'):Now w0 S0 κ0 K N M κd st' a w:=by obtain⟨S,κ,h1,h2⟩:=h;subst e;exact⟨S,κ,h1.trim ks ds,h2.kap (λb g c hl hk=>⟨b,c,zAX ks ds st b hl,hk⟩)⟩
theorem Now.bool{N:Nat}{M:Nat->Option Mem}{κd:Nat->Kap}{st:St}(h:Now w0 S0 κ0 K N M κd st a w){k:Nat}{b:Bool}(hk:get st.t k=.v (.bool b)):a.eval (.tmp k)=.bool b:=by obtain⟨S,κ,h1,_⟩:=h;have:=h1.slots k;rw[hk]at this;exact this.v_inv
end
def opsAt(j:Nat)(c:Code):Array Oper:=match regOf j c with
 |some (.region _ o _)=>o
 |_=>#[]
def zur(j:Nat)(c:Code):Bool:=match regOf j c with
 |some (.region _ _ d)=>d
 |_=>false
end Go.Ab
end
