/- Operations with their conditions. -/
import Derived.Test.YtbhkcgaanaelfaaGreatAbOmega
namespace Go.Ab
open Go.RowKit
def Holds:List Prop→Prop
 | []=>True
 | p :: r=>p∧Holds r
theorem zb0 {a b:List Prop}:Holds (a++b)↔Holds a∧Holds b:=by
 induction a with
 | nil=>simp [Holds]
 | cons p r ih=>simp [Holds,ih,and_assoc]
def psnap (L:Nat→Option Ent):Nat→AV→Option (AV×List Prop)
 | 0,_=>none
 | k+1,a=>match a with
   | .row b z off n=>match L b with
     | some ent=>if ent.z=z∧ent.box=false∧0 < z then some (.sl z ((ent.es.drop off).take n),[off+n≤ent.es.length]) else none
     | none=>none
   | .agg cs=>match mapO (psnap L k) cs with
     | some l=>some (.agg (l.map (·.1)),l.flatMap (·.2))
     | none=>none
   | .fn f cs=>match mapO (psnap L k) cs with
     | some l=>some (.fn f (l.map (·.1)),l.flatMap (·.2))
     | none=>none
   | .tup cs=>match mapO (psnap L k) cs with
     | some l=>some (.tup (l.map (·.1)),l.flatMap (·.2))
     | none=>none
   | .loc b z i o=>match L b with
     | some ent=>if ent.z=z∧(ent.box=true∨0 < ent.z) then (match ent.box with
       | true=>(match ent.es[i]? with
         | some cs=>(match mapO (psnap L k) (cs.drop o) with
           | some l=>some (.fp (l.map (·.1)),l.flatMap (·.2))
           | none=>none)
         | none=>none)
       | false=>if i=0∧o=0 then some (.fa z ent.es,[i < ent.es.length]) else some (.fp (zo7 ent.es i o),[i < ent.es.length])) else none
     | none=>none
   | a=>match snap L (k+1) a with
     | some a'=>some (a',[])
     | none=>none
theorem zt2 {l:List (AV×List Prop)} (h:Holds (l.flatMap (·.2))):∀ q∈l,Holds q.2:=by
 induction l with
 | nil=>intro q hq; cases hq
 | cons p r ih =>
   simp only [List.flatMap_cons,zb0] at h
   intro q hq
   rcases List.mem_cons.1 hq with rfl | hq
   · exact h.1
   · exact ih h.2 q hq
theorem mapO_of {α β γ:Type} {f:α→Option β} {g:α→Option γ} {t:γ→β}:∀ {l:List α} {r:List γ},mapO g l=some r→(∀ a c,a∈l→c∈r→g a=some c→f a=some (t c))→mapO f l=some (r.map t)
 | [],r,h,_=>by simp [mapO] at h; subst h; rfl
 | a :: l,r,h,hf=>by
   simp only [mapO] at h
   cases hg:g a with
   | none=>simp [hg] at h
   | some c =>
     simp only [hg] at h
     cases hm:mapO g l with
     | none=>simp [hm] at h
     | some l' =>
       simp only [hm,Option.some.injEq] at h
       subst h
       simp only [mapO,hf a c (by simp) (by simp) hg,List.map_cons]
       rw [mapO_of hm (fun a' c' ha hc=>hf a' c' (by simp [ha]) (by simp [hc]))]
theorem zg7 {L:Nat→Option Ent}:∀ (k:Nat) (a a':AV) (cs:List Prop),psnap L k a=some (a',cs)→Holds cs→snap L k a=some a':=by
 intro k
 induction k with
 | zero=>intro a a' cs h; simp [psnap] at h
 | succ k ih =>
   intro a a' ps h hh
   have lists:∀ (cs:List AV) (l:List (AV×List Prop)),mapO (psnap L k) cs=some l→Holds (l.flatMap (·.2))→mapO (snap L k) cs=some (l.map (·.1)):=by
    intro cs l hm hl
    exact mapO_of hm (fun a c _ hc hg=>ih a c.1 c.2 hg (zt2 hl c hc))
   cases a with
   | row b z off n =>
     simp only [psnap] at h
     simp only [snap]
     cases hl:L b with
     | none=>simp [hl] at h
     | some ent =>
       simp only [hl] at h ⊢
       split at h
       case isFalse=>cases h
       rename_i hc
       simp only [Option.some.injEq,Prod.mk.injEq] at h
       obtain ⟨rfl,rfl⟩:=h
       rw [if_pos ⟨hc.1,hc.2.1,hc.2.2,hh.1⟩]
   | agg cs =>
     simp only [psnap] at h
     simp only [snap]
     cases hm:mapO (psnap L k) cs with
     | none=>simp [hm] at h
     | some l =>
       simp only [hm,Option.some.injEq,Prod.mk.injEq] at h
       obtain ⟨rfl,rfl⟩:=h
       rw [lists cs l hm hh]
   | fn f cs =>
     simp only [psnap] at h
     simp only [snap]
     cases hm:mapO (psnap L k) cs with
     | none=>simp [hm] at h
     | some l =>
       simp only [hm,Option.some.injEq,Prod.mk.injEq] at h
       obtain ⟨rfl,rfl⟩:=h
       rw [lists cs l hm hh]
   | tup cs =>
     simp only [psnap] at h
     simp only [snap]
     cases hm:mapO (psnap L k) cs with
     | none=>simp [hm] at h
     | some l =>
       simp only [hm,Option.some.injEq,Prod.mk.injEq] at h
       obtain ⟨rfl,rfl⟩:=h
       rw [lists cs l hm hh]
   | loc b z i o =>
     simp only [psnap] at h
     simp only [snap]
     cases hl:L b with
     | none=>simp [hl] at h
     | some ent =>
       simp only [hl] at h ⊢
       split at h
       case isFalse=>cases h
       rename_i hc
       rw [if_pos hc]
       cases hbx:ent.box with
       | true =>
         simp only [hbx] at h
         cases hi:ent.es[i]? with
         | none=>simp [hi] at h
         | some cs =>
           simp only [hi,if_true] at h ⊢
           cases hm:mapO (psnap L k) (cs.drop o) with
           | none=>simp [hm] at h
           | some l =>
             simp only [hm,Option.some.injEq,Prod.mk.injEq] at h
             obtain ⟨rfl,rfl⟩:=h
             rw [lists _ l hm hh]
       | false =>
         simp only [hbx] at h
         split at h
         · rename_i hio
           simp only [Option.some.injEq,Prod.mk.injEq] at h
           obtain ⟨rfl,rfl⟩:=h
           rw [List.getElem?_eq_getElem hh.1]
           simp [hio]
         · rename_i hio
           simp only [Option.some.injEq,Prod.mk.injEq] at h
           obtain ⟨rfl,rfl⟩:=h
           rw [List.getElem?_eq_getElem hh.1]
           simp [hio]
   | _ =>
     simp only [psnap] at h
     split at h
     · rename_i a1 ha
       simp only [Option.some.injEq,Prod.mk.injEq] at h
       obtain ⟨rfl,rfl⟩:=h
       exact ha
     · cases h
def zk0 (L:Nat→Option Ent) (wrt:List Nat):Nat→List AV→Option ((List AV×Mem×List (Nat×Nat)×List Nat)×List Prop)
 | _,[]=>some (([],[],[],[]),[])
 | k,a :: r=>match zk0 L wrt (k+1) r with
   | none=>none
   | some ((as,ms,bk,fz),ps) =>
     if wrt.contains k then (match a with
      | .loc b z 0 0=>match L b with
        | some ent=>if ent.z=z∧ent.box=true∧allL (fun cs=>allL (AV.isC 4) cs) ent.es=true∧bk.all (fun p=>p.1≠b)=true then
          some ((.loc (1000+k) z 0 0 :: as,(1000+k,ent) :: ms,(b,1000+k) :: bk,fz),ps) else none
        | none=>none
      | .row b z off n=>match L b with
        | some ent=>if ent.z=z∧ent.box=false∧0 < z∧bk.all (fun p=>p.1≠b)=true then
          some ((.row (1000+k) z off n :: as,(1000+k,ent) :: ms,(b,1000+k) :: bk,fz),ps) else none
        | none=>none
      | .map b=>match L b with
        | some ent=>if ent.z=0∧ent.box=false∧bk.all (fun p=>p.1≠b)=true then
          some ((.map (1000+k) :: as,(1000+k,ent) :: ms,(b,1000+k) :: bk,fz),ps) else none
        | none=>none
      | _=>none)
     else if wrt.contains (100+k) then (match a with
      | .row b z 0 n=>match L b with
        | some ent=>if ent.z=z∧ent.box=false∧0 < z∧b < 1000∧k < 50∧bk.all (fun p=>p.1≠b)=true then
          some ((.row (950+k) z 0 n :: as,(950+k,ent) :: ms,(b,950+k) :: bk,fz),(n=ent.es.length) :: ps) else none
        | none=>none
      | _=>none)
     else match psnap L 5 a with
      | some (a',qs)=>some ((a' :: as,ms,bk,a.ids L 5++fz),qs++ps)
      | none=>none
theorem ziX {L:Nat→Option Ent} {wrt:List Nat}:∀ (args:List AV) (k:Nat) (q:List AV×Mem×List (Nat×Nat)×List Nat) (ps:List Prop),zk0 L wrt k args=some (q,ps)→Holds ps→zb3 L wrt k args=some q
 | [],k,q,ps,h,_=>by simp [zk0] at h; rw [← h.1]; rfl
 | a :: r,k,q,ps,h,hh=>by
   simp only [zk0] at h
   cases hr:zk0 L wrt (k+1) r with
   | none=>simp [hr] at h
   | some q0 =>
     obtain ⟨⟨as,ms,bk,fz⟩,ps0⟩:=q0
     simp only [hr] at h
     simp only [zb3]
     by_cases hw:wrt.contains k=true
     · simp only [hw,if_true] at h ⊢
       have hps:Holds ps0:=by
        split at h
        · split at h
          · split at h
            · simp only [Option.some.injEq,Prod.mk.injEq] at h; rw [h.2]; exact hh
            · cases h
          · cases h
        · split at h
          · split at h
            · simp only [Option.some.injEq,Prod.mk.injEq] at h; rw [h.2]; exact hh
            · cases h
          · cases h
        · split at h
          · split at h
            · simp only [Option.some.injEq,Prod.mk.injEq] at h; rw [h.2]; exact hh
            · cases h
          · cases h
        · cases h
       rw [ziX r (k+1) _ _ hr hps]
       simp only
       split at h
       · split at h
         · rename_i ent hl
           split at h
           · rename_i hc
             simp only [hl,Option.some.injEq,Prod.mk.injEq] at h ⊢
             rw [if_pos hc,← h.1]
           · cases h
         · cases h
       · split at h
         · rename_i ent hl
           split at h
           · rename_i hc
             simp only [hl,Option.some.injEq,Prod.mk.injEq] at h ⊢
             rw [if_pos hc,← h.1]
           · cases h
         · cases h
       · split at h
         · rename_i ent hl
           split at h
           · rename_i hc
             simp only [hl,Option.some.injEq,Prod.mk.injEq] at h ⊢
             rw [if_pos hc,← h.1]
           · cases h
         · cases h
       · cases h
     · simp only [hw,if_false,Bool.false_eq_true] at h ⊢
       by_cases hg:wrt.contains (100+k)=true
       · simp only [hg,if_true] at h ⊢
         split at h
         case h_2=>cases h
         split at h
         case h_2=>cases h
         rename_i ent hl
         split at h
         case isFalse=>cases h
         rename_i hc
         simp only [Option.some.injEq,Prod.mk.injEq] at h
         obtain ⟨h1,rfl⟩:=h
         rw [ziX r (k+1) _ _ hr hh.2]
         simp only [hl]
         rw [if_pos ⟨hc.1,hc.2.1,hc.2.2.1,hh.1,hc.2.2.2.1,hc.2.2.2.2.1,hc.2.2.2.2.2⟩,← h1]
       simp only [hg,if_false,Bool.false_eq_true] at h ⊢
       cases hs:psnap L 5 a with
       | none=>simp [hs] at h
       | some q1 =>
         obtain ⟨a',qs⟩:=q1
         simp only [hs,Option.some.injEq,Prod.mk.injEq] at h
         obtain ⟨rfl,rfl⟩:=h
         rw [zb0] at hh
         rw [ziX r (k+1) _ _ hr hh.2,zg7 5 a a' qs hs hh.1]
def pInt (op:BinOp) (k k':IntKind) (a b:Int):Option (AV×List Prop):=
 match op with
 | .shl=>some (.v (.int k (k.wrap (a*2 ^ (min b.toNat k.bits)))),[0≤b])
 | .shr=>some (.v (.int k (a.fdiv (2 ^ (min b.toNat k.bits)))),[0≤b])
 | op=>if k=k' then (match op with
   | .add=>some (.v (.int k (k.wrap (a+b))),[])
   | .sub=>some (.v (.int k (k.wrap (a - b))),[])
   | .mul=>some (.v (.int k (k.wrap (a*b))),[])
   | .quo=>some (.v (.int k (k.wrap (a.tdiv b))),[b≠0])
   | .rem=>some (.v (.int k (a.tmod b)),[b≠0])
   | .eql=>some (.v (.bool (a == b)),[])
   | .neq=>some (.v (.bool (a != b)),[])
   | .lss=>some (.v (.bool (decide (a < b))),[])
   | .leq=>some (.v (.bool (decide (a≤b))),[])
   | .gtr=>some (.v (.bool (decide (b < a))),[])
   | .geq=>some (.v (.bool (decide (b≤a))),[])
   | _=>none) else none
theorem pInt_sound {P:Program} {o:Oper} {op:BinOp} {t u:TypeId} {x y:Operand} {E:Operand→AV} {k k':IntKind} {a b:Int} (ho:o.op=.binOp op t x y u) (hx:E x=.v (.int k a)) (hy:E y=.v (.int k' b)) {v:AV} {ps:List Prop}
  (h:pInt op k k' a b=some (v,ps)) (hh:Holds ps):aPure P o E=some { val:=v }:=by
 have hops:o.op.operands=#[x,y]:=by rw [ho]; rfl
 unfold aPure
 rw [hops]
 have hall:([x,y].all fun x=>(E x).toVal.isSome)=true:=by simp [hx,hy,AV.toVal]
 rw [show (#[x,y]:Array Operand).toList=[x,y] from rfl,if_pos hall]
 have hex:execOp (fun x=>((E x).toVal).getD undef) o=(do let q ← (do eqGuard op t x y (.int k a) (.int k' b); binOp op t (.int k a) (.int k' b)); pure (.value q)):=by
  simp only [execOp,ho,hx,hy,AV.toVal,Option.getD_some]
 rw [hex]
 have hg:∀ (s:Sem Value),zbf P (do eqGuard op t x y (.int k a) (.int k' b); s)=zbf P s:=by
  intro s
  cases op <;> simp [eqGuard,Bind.bind,Sem.bind,Pure.pure]
 have hrun:∀ (s:Sem Value) (q:Value),zbf P s=some q→zbf P (do let q ← s; pure (Next.value q))=some (Next.value q):=by
  intro s
  induction s with
  | pure a=>intro q hq; simp [zbf] at hq; subst hq; rfl
  | program f ih=>intro q hq; simp only [zbf] at hq; exact ih P q hq
  | mark m f ih=>intro q hq; simp only [zbf] at hq; exact ih q hq
  | _=>intro q hq; simp [zbf] at hq
 have fin:∀ q:Value,q.oneCell'=true→(∀ vs,q≠.tuple vs)→zbf P (binOp op t (.int k a) (.int k' b))=some q→v=.v q →
   (match zbf P (do let q ← (do eqGuard op t x y (.int k a) (.int k' b); binOp op t (.int k a) (.int k' b)); pure (Next.value q)) with
    | some (.value x)=>match ofVal x with
      | some a=>some { val:=a }
      | none=>none
    | _=>none)=some ({ val:=v }:Res):=by
  intro q h1 hn h2 h3
  rw [hrun _ q (by rw [hg]; exact h2)]
  have:ofVal q=some (.v q):=by
   unfold ofVal
   split
   · exact absurd rfl (hn _)
   · rw [if_pos h1]
  simp only [this,h3]
 unfold pInt at h
 cases op <;> simp only at h
 case shl =>
  simp only [Option.some.injEq,Prod.mk.injEq] at h
  obtain ⟨rfl,rfl⟩:=h
  refine fin (.int k (k.wrap (a*2 ^ (min b.toNat k.bits)))) rfl (by simp) ?_ rfl
  have:¬ b < 0:=by have:=hh.1; omega
  simp [binOp,Op.shift,this,zbf,Pure.pure]
 case shr =>
  simp only [Option.some.injEq,Prod.mk.injEq] at h
  obtain ⟨rfl,rfl⟩:=h
  refine fin (.int k (a.fdiv (2 ^ (min b.toNat k.bits)))) rfl (by simp) ?_ rfl
  have:¬ b < 0:=by have:=hh.1; omega
  simp [binOp,Op.shift,this,zbf,Pure.pure]
 all_goals
  split at h
  case isFalse=>cases h
  rename_i hk
  subst hk
 case add | sub | mul =>
  simp only [Option.some.injEq,Prod.mk.injEq] at h
  obtain ⟨rfl,rfl⟩:=h
  refine fin _ rfl (by simp) ?_ rfl
  simp [binOp,Op.intArith,zbf,Pure.pure]
 case quo | rem =>
  simp only [Option.some.injEq,Prod.mk.injEq] at h
  obtain ⟨rfl,rfl⟩:=h
  refine fin _ rfl (by simp) ?_ rfl
  have:=hh.1
  simp [binOp,Op.intDiv,this,zbf,Pure.pure]
 case eql | neq | lss | leq | gtr | geq =>
  simp only [Option.some.injEq,Prod.mk.injEq] at h
  obtain ⟨rfl,rfl⟩:=h
  refine fin _ rfl (by simp) ?_ rfl
  simp [binOp,Op.intCmp,zbf,Pure.pure]
 all_goals cases h
def noCall:za6:=fun _ _ _=>none
theorem noCall_le (c:za6):LeC noCall c:=fun _ _ _ _ h=>by cases h
def psrc (L:Nat→Option Ent) (z:Nat):AV→Option (List (List AV)×List Prop)
 | .row b z' off n=>match L b with
   | some ent=>if ent.z=z∧z'=z∧ent.box=false∧0 < z then some ((ent.es.drop off).take n,[off+n≤ent.es.length]) else none
   | none=>none
 | a=>match srcOf L z a with
   | some l=>some (l,[])
   | none=>none
theorem zpC {L:Nat→Option Ent} {z:Nat} {a:AV} {l:List (List AV)} {ps:List Prop} (h:psrc L z a=some (l,ps)) (hh:Holds ps):srcOf L z a=some l:=by
 unfold psrc at h
 split at h
 · rename_i b z' off n
   simp only [srcOf]
   cases hl:L b with
   | none=>simp [hl] at h
   | some ent =>
     simp only [hl] at h ⊢
     split at h
     case isFalse=>cases h
     rename_i hc
     simp only [Option.some.injEq,Prod.mk.injEq] at h
     obtain ⟨rfl,rfl⟩:=h
     rw [if_pos ⟨hc.1,hc.2.1,hc.2.2.1,hc.2.2.2,hh.1⟩]
 · split at h
   · rename_i l' hl
     simp only [Option.some.injEq,Prod.mk.injEq] at h
     obtain ⟨rfl,rfl⟩:=h
     exact hl
   · cases h
def pNat (d:Nat):Option AV→Option (Nat×List Prop)
 | none=>some (d,[])
 | some (.v (.int _ n))=>some (n.toNat,[0≤n])
 | _=>none
theorem zmO {d n:Nat} {a:Option AV} {ps:List Prop} (h:pNat d a=some (n,ps)) (hh:Holds ps):natOf d a=some n:=by
 unfold pNat at h
 split at h
 · simp only [Option.some.injEq,Prod.mk.injEq] at h
   obtain ⟨rfl,rfl⟩:=h
   rfl
 · simp only [Option.some.injEq,Prod.mk.injEq] at h
   obtain ⟨rfl,rfl⟩:=h
   simp only [natOf]
   rw [if_pos hh.1]
 · cases h
def pSlice (P:Program) (t:TypeId) (x:AV) (lo hi:Option AV):Option (Res×List Prop):=
 match P.underlying t with
 | some (.slice e)=>match szB P e,x with
   | some sz,.sl z es=>match pNat 0 lo,pNat es.length hi with
     | some (l,ps),some (h,qs)=>if z=sz then some ({ val:=.sl z ((es.take h).drop l) },ps++(qs++[l≤h,h≤es.length])) else none
     | _,_=>none
   | some sz,.row b z off n=>match pNat 0 lo,pNat n hi with
     | some (l,ps),some (h,qs)=>if z=sz then some ({ val:=.row b z (off+l) (h - l) },ps++(qs++[l≤h,h≤n])) else none
     | _,_=>none
   | _,_=>none
 | _=>none
theorem zw1 {P:Program} {t:TypeId} {x:AV} {lo hi:Option AV} {r:Res} {ps:List Prop} (h:pSlice P t x lo hi=some (r,ps)) (hh:Holds ps):aSlice P t x lo hi=some r:=by
 unfold pSlice at h
 unfold aSlice
 cases hu:P.underlying t with
 | none=>simp [hu] at h
 | some td =>
   cases td with
   | slice e =>
     simp only [hu] at h ⊢
     split at h
     · rename_i sz z es hs
       simp only [hs]
       split at h
       case h_2=>cases h
       rename_i l p1 hh' q1 h1 h2
       split at h
       case isFalse=>cases h
       rename_i hz
       simp only [Option.some.injEq,Prod.mk.injEq] at h
       obtain ⟨rfl,rfl⟩:=h
       rw [zb0,zb0] at hh
       rw [zmO h1 hh.1,zmO h2 hh.2.1]
       simp only
       rw [if_pos ⟨hz,hh.2.2.1,hh.2.2.2.1⟩]
     · rename_i sz b z off n hs
       simp only [hs]
       split at h
       case h_2=>cases h
       rename_i l p1 hh' q1 h1 h2
       split at h
       case isFalse=>cases h
       rename_i hz
       simp only [Option.some.injEq,Prod.mk.injEq] at h
       obtain ⟨rfl,rfl⟩:=h
       rw [zb0,zb0] at hh
       rw [zmO h1 hh.1,zmO h2 hh.2.1]
       simp only
       rw [if_pos ⟨hz,hh.2.2.1,hh.2.2.2.1⟩]
     · cases h
   | _=>simp [hu] at h
def pMake (P:Program) (d:Nat) (t:TypeId) (l c:AV):Option (Res×List Prop):=
 match l,c with
 | .v (.int _ n),.v (.int _ n')=>match P.underlying t with
   | some (.slice e)=>match szB P e,zeroB P e,P.info? e with
     | some sz,some zero,some i=>if 0 < sz∧zero.length=sz∧allL AV.one zero=true then
       some ({ val:=.row d sz 0 (List.replicate n.toNat (nrmL P (zhA P 8 e) zero)).length,set:=[(d,{ z:=sz,e:=e,es:=List.replicate n.toNat (nrmL P (zhA P 8 e) zero),box:=false })] },[n=n',0≤n,n.toNat*(i.bytes+1)≤1099511627776]) else none
     | _,_,_=>none
   | _=>none
 | _,_=>none
theorem zyM {P:Program} {d:Nat} {t:TypeId} {l c:AV} {r:Res} {ps:List Prop} (h:pMake P d t l c=some (r,ps)) (hh:Holds ps):aMake P d t l c=some r:=by
 unfold pMake at h
 split at h
 case h_2=>cases h
 rename_i k n k' n'
 split at h
 case h_2=>cases h
 rename_i e hu
 split at h
 case h_2=>cases h
 rename_i sz zero i hs hz hi
 split at h
 case isFalse=>cases h
 rename_i hc
 simp only [Option.some.injEq,Prod.mk.injEq] at h
 obtain ⟨rfl,rfl⟩:=h
 simp only [aMake,hu,hs,hz,hi]
 rw [if_pos ⟨hh.1,hh.2.1,hc.1,hc.2.1,hc.2.2,hh.2.2.1⟩]
def pAppend (P:Program) (L:Nat→Option Ent) (d:Nat) (t:TypeId) (s x:AV):Option (Res×List Prop):=
 match P.underlying t with
 | some (.slice e)=>match P.info? e,zeroB P e with
   | some i,some zero=>if 0 < i.size∧zero.length=i.size then (match psrc L i.size x with
     | some (new,ps)=>(match s with
       | .v (.slice none 0 0)=>some ({ val:=.row d i.size 0 new.length,set:=[(d,{ z:=i.size,e:=e,es:=new,box:=false })] },ps++[new.length*(i.bytes+1)≤1099511627776])
       | .row b z off n=>match L b with
         | some ent=>if b < 1000∧b≠d∧ent.z=i.size∧z=i.size∧ent.e=e∧ent.box=false∧off=0 then
           some ({ val:=.row d i.size 0 (ent.es++new).length,set:=[(d,{ z:=i.size,e:=e,es:=ent.es++new,box:=false })],kill:=some b },
            ps++[n=ent.es.length,(ent.es.length+new.length)*(i.bytes+1)≤1099511627776]) else none
         | none=>none
       | _=>none)
     | none=>none) else none
   | _,_=>none
 | _=>none
theorem zvB {P:Program} {L:Nat→Option Ent} {d:Nat} {t:TypeId} {s x:AV} {r:Res} {ps:List Prop} (h:pAppend P L d t s x=some (r,ps)) (hh:Holds ps):ziy P L d t s x=some r:=by
 unfold pAppend at h
 unfold ziy
 cases hu:P.underlying t with
 | none=>simp [hu] at h
 | some td =>
   cases td with
   | slice e =>
     simp only [hu] at h ⊢
     cases hi:P.info? e with
     | none=>simp [hi] at h
     | some i =>
       cases hz:zeroB P e with
       | none=>simp [hi,hz] at h
       | some zero =>
         simp only [hi,hz] at h ⊢
         split at h
         case isFalse=>cases h
         rename_i hc
         rw [if_pos hc]
         cases hs:psrc L i.size x with
         | none=>simp [hs] at h
         | some q =>
           obtain ⟨new,qs⟩:=q
           simp only [hs] at h
           split at h
           · simp only [Option.some.injEq,Prod.mk.injEq] at h
             obtain ⟨rfl,rfl⟩:=h
             rw [zb0] at hh
             rw [zpC hs hh.1]
             simp only
             rw [if_pos hh.2.1]
           · rename_i b z off n
             cases hl:L b with
             | none=>simp [hl] at h
             | some ent =>
               simp only [hl] at h ⊢
               split at h
               case isFalse=>cases h
               rename_i hc2
               simp only [Option.some.injEq,Prod.mk.injEq] at h
               obtain ⟨rfl,rfl⟩:=h
               rw [zb0] at hh
               rw [zpC hs hh.1]
               simp only
               rw [if_pos ⟨hc2.1,hc2.2.1,hc2.2.2.1,hc2.2.2.2.1,hc2.2.2.2.2.1,hc2.2.2.2.2.2.1,hc2.2.2.2.2.2.2,hh.2.1,hh.2.2.1⟩]
           · cases h
   | _=>simp [hu] at h
def pCopy (P:Program) (L:Nat→Option Ent) (t:TypeId) (s x:AV):Option (Res×List Prop):=
 match P.underlying t with
 | some (.slice e)=>match szB P e,s with
   | some sz,.row b z off n=>match L b,psrc L sz x with
     | some ent,some (new,ps)=>if 0 < sz∧z=sz∧ent.z=sz∧ent.box=false then
       some ({ val:=.v (.int .i64 (min new.length n:Nat)),set:=[(b,{ ent with es:=ent.es.take off++(new.take n)++ent.es.drop (off+min new.length n) })] },ps++[off+n≤ent.es.length]) else none
     | _,_=>none
   | _,_=>none
 | _=>none
theorem zx4 {P:Program} {L:Nat→Option Ent} {t:TypeId} {s x:AV} {r:Res} {ps:List Prop} (h:pCopy P L t s x=some (r,ps)) (hh:Holds ps):aCopy P L t s x=some r:=by
 unfold pCopy at h
 unfold aCopy
 cases hu:P.underlying t with
 | none=>simp [hu] at h
 | some td =>
   cases td with
   | slice e =>
     simp only [hu] at h ⊢
     split at h
     case h_2=>cases h
     rename_i sz b z off n hs
     simp only [hs]
     split at h
     case h_2=>cases h
     rename_i ent new qs hl hsrc
     split at h
     case isFalse=>cases h
     rename_i hc
     simp only [Option.some.injEq,Prod.mk.injEq] at h
     obtain ⟨rfl,rfl⟩:=h
     rw [zb0] at hh
     rw [hl,zpC hsrc hh.1]
     simp only
     rw [if_pos ⟨hc.1,hc.2.1,hc.2.2.1,hc.2.2.2,hh.2.1⟩]
   | _=>simp [hu] at h
def pClear (P:Program) (L:Nat→Option Ent) (t:TypeId) (s:AV):Option (Res×List Prop):=
 match P.underlying t with
 | some (.slice e)=>match szB P e,zeroB P e,s with
   | some sz,some zero,.row b z off n=>match L b with
     | some ent=>if 0 < sz∧z=sz∧ent.z=sz∧ent.box=false∧zero.length=sz∧allL AV.one zero=true then
       some ({ val:=.tup [],set:=[(b,{ ent with es:=ent.es.take off++List.replicate n (nrmL P (zhA P 8 e) zero)++ent.es.drop (off+n) })] },[off+n≤ent.es.length]) else none
     | none=>none
   | _,_,_=>none
 | _=>none
theorem zxe {P:Program} {L:Nat→Option Ent} {t:TypeId} {s:AV} {r:Res} {ps:List Prop} (h:pClear P L t s=some (r,ps)) (hh:Holds ps):aClear P L t s=some r:=by
 unfold pClear at h
 unfold aClear
 cases hu:P.underlying t with
 | none=>simp [hu] at h
 | some td =>
   cases td with
   | slice e =>
     simp only [hu] at h ⊢
     split at h
     case h_2=>cases h
     rename_i sz zero b z off n hs hz
     simp only [hs,hz]
     split at h
     case h_2=>cases h
     rename_i ent hl
     split at h
     case isFalse=>cases h
     rename_i hc
     simp only [Option.some.injEq,Prod.mk.injEq] at h
     obtain ⟨rfl,rfl⟩:=h
     rw [hl]
     simp only
     rw [if_pos ⟨hc.1,hc.2.1,hc.2.2.1,hc.2.2.2.1,hc.2.2.2.2.1,hc.2.2.2.2.2,hh.1⟩]
   | _=>simp [hu] at h
def strAt (s:ByteArray) (n:Int):Int:=(((s[n.toNat]?).getD 0).toNat:Int)
theorem zyc {P:Program} {o:Oper} {t:TypeId} {x ix:Operand} {E:Operand→AV} {s:ByteArray} {k:IntKind} {n:Int} (ho:o.op=.index t x ix) (hx:E x=.v (.string s)) (hi:E ix=.v (.int k n))
  (hu:P.underlying t=some .string) (h0:0≤n) (h1:n < (s.size:Int)):aPure P o E=some { val:=.v (.int .u8 (strAt s n)) }:=by
 have h1':n.toNat < s.size:=by omega
 have hs:s[n.toNat]?=some s[n.toNat]:=by simp [h1']
 have hr:zbf P (execOp (fun x=>((E x).toVal).getD undef) o)=some (.value (.int .u8 (strAt s n))):=by
  simp [execOp,ho,hx,hi,AV.toVal,Instr.index,asIntOf,underlying,h0,hs,strAt,bind,Sem.bind,Pure.pure]
  simp [program,zbf,Sem.bind,hu,hs]
 unfold aPure
 have ha:o.op.operands.toList.all (fun x=>(E x).toVal.isSome)=true:=by
  simp [ho,Op.operands,hx,hi,AV.toVal]
 rw [if_pos ha,hr]
 rfl
end Go.Ab
