/- Equality of plain values, operations that look at no memory. -/
import Derived.Test.YtbhkcgaanaelfaaGreatAbCall
namespace Go.Ab
open Go.RowKit
section
variable {P:Program} {S:Nat→Prop} {κ:Kap} {D:Nat→Prop} {w:World} {L:Nat→Option Ent}
theorem zis {o:Oper} {E:Operand→AV} {r:Res} {ρ:Operand→Value} (hs:∀ cs b,o.op≠.select cs b) (hE:∀ x∈o.op.operands,VRel S κ D w (E x) (ρ x)) (h:aPure P o E=some r) :
  ∃ y,(execOp ρ o).run P w=.ok (.value y) w∧VRel S κ D w r.val y∧r.set=[]∧r.kill=none∧r.frz=[]:=by
 unfold aPure at h
 split at h
 case isFalse=>cases h
 rename_i hall
 have hcongr:execOp ρ o=execOp (fun x=>((E x).toVal).getD undef) o:=execOp_congr o hs (fun x hx=>by
  have h1:=List.all_eq_true.1 hall x (by simpa using hx)
  obtain ⟨y,hy⟩:=Option.isSome_iff_exists.1 h1
  simp only [hy,Option.getD_some]
  exact zsh hy (hE x hx))
 split at h
 case h_2=>cases h
 rename_i x hx
 split at h
 case h_2=>cases h
 rename_i av hav
 injection h with h
 subst h
 refine ⟨x,?_,.c (zy2 hav),rfl,rfl,rfl⟩
 rw [hcongr]
 exact zmv P _ _ hx w
def IsOf (P:Program) (t:TypeId) (xs:List Value) (x:Value):Prop:=(isAggB P t=some true∧x=.agg xs.toArray)∨(isAggB P t=some false∧xs=[x])
def aggD:TypeDesc→Bool
 | .struct _=>true
 | .array _ _=>true
 | _=>false
theorem zf3 {t:TypeId} {td:TypeDesc} (h:P.underlying t=some td):isAggB P t=some (aggD td):=by
 unfold isAggB
 rw [h]
 cases td <;> rfl
theorem eqV_agg {k:Nat} {t:TypeId} {xs ys:List Value} {r:Bool} (h:eqV P k t xs ys=some r) :
  isAggB P t=some true∨(isAggB P t=some false∧(∃ x,xs=[x])∧∃ y,ys=[y]):=by
 cases k with
 | zero=>simp [eqV] at h
 | succ k =>
   unfold eqV at h
   split at h
   · rename_i hu
     split at h
     · exact .inr ⟨zf3 hu,⟨_,rfl⟩,_,rfl⟩
     · cases h
   · rename_i hu
     split at h
     · exact .inr ⟨zf3 hu,⟨_,rfl⟩,_,rfl⟩
     · cases h
   · rename_i hu
     split at h
     · exact .inr ⟨zf3 hu,⟨_,rfl⟩,_,rfl⟩
     · cases h
   · rename_i hu; exact .inl (zf3 hu)
   · rename_i hu; exact .inl (zf3 hu)
   · cases h
theorem part_of {t:TypeId} {arr:Array Value} {off n:Nat} (w:World) (hn:szB P t=some n) (h:isAggB P t=some true∨(isAggB P t=some false∧∃ x,(arr.toList.drop off).take n=[x])) :
  ∃ y,(part t arr off).run P w=.ok y w∧IsOf P t ((arr.toList.drop off).take n) y:=by
 rcases h with h | ⟨h,x,hx⟩
 · refine ⟨.agg (arr.extract off (off+n)),?_,.inl ⟨h,?_⟩⟩
   · simp only [part,Sem.run_bind,zjf h,Result.andThen_ok,if_true,zbs hn,Sem.run_pure]
   · congr 1
     apply Array.toList_inj.1
     rw [Array.toList_extract]
     simp [List.extract]
 · have hget:arr[off]?=some x:=by
    have h0:((arr.toList.drop off).take n)[0]?=some x:=by rw [hx]; rfl
    rw [List.getElem?_take] at h0
    split at h0
    · rw [List.getElem?_drop] at h0
      simpa using h0
    · cases h0
   refine ⟨x,?_,.inr ⟨h,hx⟩⟩
   simp only [part,Sem.run_bind,zjf h,Result.andThen_ok,Bool.false_eq_true,if_false,hget,Sem.run_pure]
theorem zmR {a b:Option Bool} {r:Bool} (h:eqAnd a b=some r):∃ x y,a=some x∧b=some y∧r=(x && y):=by
 cases a <;> cases b <;> simp [eqAnd] at h
 exact ⟨_,_,rfl,rfl,h.symm⟩
theorem zq7:∀ (k:Nat) (t:TypeId) (xs ys:List Value) (r:Bool),eqV P k t xs ys=some r→∀ (d:Nat) (x y:Value) (w:World),IsOf P t xs x→IsOf P t ys y→(Op.equalIn (d+k) t x y).run P w=.ok r w:=by
 intro k
 induction k with
 | zero=>intro t xs ys r h; simp [eqV] at h
 | succ k ih =>
   intro t xs ys r h d x y w hx hy
   have step:∀ (u:TypeId) (xs ys:List Value) (n off:Nat) (r1:Bool) (w:World),szB P u=some n→eqV P k u ((xs.drop off).take n) ((ys.drop off).take n)=some r1 →
     ∃ a b,(part u xs.toArray off).run P w=.ok a w∧(part u ys.toArray off).run P w=.ok b w∧(Op.equalIn (d+k) u a b).run P w=.ok r1 w:=by
    intro u xs ys n off r1 w hn he
    have hs:=eqV_agg he
    obtain ⟨a,ha,ia⟩:=part_of (arr:=xs.toArray) (off:=off) w hn (hs.imp id (fun q=>⟨q.1,q.2.1⟩))
    obtain ⟨b,hb,ib⟩:=part_of (arr:=ys.toArray) (off:=off) w hn (hs.imp id (fun q=>⟨q.1,q.2.2⟩))
    exact ⟨a,b,ha,hb,ih u _ _ r1 he d a b w ia ib⟩
   have one:∀ {td:TypeDesc} {a b:Value},P.underlying t=some td→aggD td=false→xs=[a]→ys=[b]→x=a∧y=b:=by
    intro td a b hu hf h1 h2
    have hagg:=zf3 hu
    rw [hf] at hagg
    rcases hx with ⟨q,_⟩ | ⟨_,q⟩
    · rw [hagg] at q; cases q
    · rcases hy with ⟨q',_⟩ | ⟨_,q'⟩
      · rw [hagg] at q'; cases q'
      · rw [h1] at q; rw [h2] at q'
        injection q with q; injection q' with q'
        exact ⟨q.symm,q'.symm⟩
   have two:∀ {td:TypeDesc},P.underlying t=some td→aggD td=true→x=.agg xs.toArray∧y=.agg ys.toArray:=by
    intro td hu hf
    have hagg:=zf3 hu
    rw [hf] at hagg
    rcases hx with ⟨_,q⟩ | ⟨q,_⟩
    · rcases hy with ⟨_,q'⟩ | ⟨q',_⟩
      · exact ⟨q,q'⟩
      · rw [hagg] at q'; cases q'
    · rw [hagg] at q; cases q
   unfold eqV at h
   split at h
   · rename_i hu
     split at h
     · injection h with h
       obtain ⟨rfl,rfl⟩:=one hu rfl rfl rfl
       rw [← h]
       exact run_equalIn_bool' w (d+k) t _ _ hu
     · cases h
   · rename_i q hu
     split at h
     · split at h
       · rename_i hq
         subst hq
         injection h with h
         obtain ⟨rfl,rfl⟩:=one hu rfl rfl rfl
         rw [← h]
         exact run_equalIn_int w (d+k) t _ _ _ _ hu
       · cases h
     · cases h
   · rename_i hu
     split at h
     · injection h with h
       obtain ⟨rfl,rfl⟩:=one hu rfl rfl rfl
       rw [← h,beq_toListBytes]
       exact run_equalIn_string w (d+k) t _ _ hu
     · cases h
   · rename_i fs hu
     split at h
     · cases h
     rename_i hst
     obtain ⟨rfl,rfl⟩:=two hu rfl
     have hfs:P.fieldsOf t=fs:=by simp [Program.fieldsOf,hu]
     rw [show d+(k+1)=(d+k)+1 from rfl,run_equalIn_struct w (d+k) t _ _ (by rw [hfs]; exact hu) (by simpa using hst),hfs]
     generalize fs.toList=l at h
     clear hu hfs
     induction l generalizing r w with
     | nil =>
       simp only [eqFs] at h
       injection h with h
       subst h
       simp [Op.eqFields]
     | cons f l ihl =>
       simp only [eqFs] at h
       simp only [Op.eqFields]
       split at h
       · rename_i hn
         rw [if_pos hn]
         split at h
         · rename_i n hsz
           obtain ⟨r1,r2,e1,e2,rfl⟩:=zmR h
           obtain ⟨a,b,p1,p2,p3⟩:=step f.type xs ys n f.offset r1 w hsz e1
           simp only [Sem.run_bind,p1,p2,p3,Result.andThen_ok]
           cases r1 with
           | false=>simp
           | true=>simpa using ihl r2 w e2
         · cases h
       · rename_i hn
         rw [if_neg hn]
         exact ihl r w h
   · rename_i n e hu
     split at h
     case h_2=>cases h
     rename_i c hc
     obtain ⟨rfl,rfl⟩:=two hu rfl
     obtain ⟨i,hi⟩:∃ i,P.info? e=some i:=by
      cases hq:P.info? e with
      | none=>simp [szB,hq] at hc
      | some i=>exact ⟨i,rfl⟩
     have hcell:P.cellsOf e=c:=by
      simp only [szB] at hc
      simp only [Program.cellsOf]
      rw [hc]; rfl
     rw [show d+(k+1)=(d+k)+1 from rfl,run_equalIn_array w (d+k) _ _ hu hi,hcell]
     generalize List.range n=l at h
     clear hu
     induction l generalizing r w with
     | nil =>
       simp only [eqIs] at h
       injection h with h
       subst h
       simp [Op.eqItems]
     | cons j l ihl =>
       simp only [eqIs] at h
       simp only [Op.eqItems]
       obtain ⟨r1,r2,e1,e2,rfl⟩:=zmR h
       obtain ⟨a,b,p1,p2,p3⟩:=step e xs ys c (j*c) r1 w hc e1
       simp only [Sem.run_bind,p1,p2,p3,Result.andThen_ok]
       cases r1 with
       | false=>simp
       | true=>simpa using ihl r2 w e2
   · cases h
theorem zio {cs:List AV} {l:List Value} {v:Value} (h:mapO AV.scal cs=some l) (hr:VRel S κ D w (.agg cs) v):v=.agg l.toArray:=by
 have:(AV.agg cs).toVal=some (.agg l.toArray):=by simp [AV.toVal,h]
 exact zsh this hr
theorem aEq_sound {o:Oper} {op:BinOp} {t u:TypeId} {x y:Operand} {cs ds:List AV} {r:Res} {ρ:Operand→Value} (ho:o.op=.binOp op t x y u) (h:aEq P op t cs ds=some r)
  (hx:VRel S κ D w (.agg cs) (ρ x)) (hy:VRel S κ D w (.agg ds) (ρ y)):∃ b,(execOp ρ o).run P w=.ok (.value (.bool b)) w∧r={ val:=.v (.bool b) }:=by
 unfold aEq at h
 split at h
 case h_2=>cases h
 rename_i xs ys h1 h2
 split at h
 · cases h
 rename_i hg
 have ex:=zio h1 hx
 have ey:=zio h2 hy
 have hg':P.eqGuardType P.depth t=false:=by simpa using hg
 split at h
 · rename_i b ha he
   injection h with h
   refine ⟨b,?_,h.symm⟩
   have:=zq7 (P:=P) 20 t xs ys b he 9980 _ _ w (.inl ⟨ha,rfl⟩) (.inl ⟨ha,rfl⟩)
   simp only [execOp,ho,ex,ey,Sem.run_bind,run_eqGuard_agg w .eql t x y _ _ hg',Result.andThen_ok,run_eql_struct]
   rw [show (10000:Nat)=9980+20 from rfl,this]
   simp
 · rename_i b ha he
   injection h with h
   refine ⟨!b,?_,h.symm⟩
   have:=zq7 (P:=P) 20 t xs ys b he 9980 _ _ w (.inl ⟨ha,rfl⟩) (.inl ⟨ha,rfl⟩)
   simp only [execOp,ho,ex,ey,Sem.run_bind,run_eqGuard_agg w .neq t x y _ _ hg',Result.andThen_ok,run_neq_struct]
   rw [show (10000:Nat)=9980+20 from rfl,this]
   simp
 · cases h
theorem ztp {t:TypeId} {cs:List AV} {arr:Array Value} {off:Nat} {av:AV} (hl:arr.size=cs.length) (h1:∀ x∈arr,x.oneCell'=true)
  (hr:∀ (j:Nat) (c:AV) (x:Value),cs[j]?=some c→arr[j]?=some x→VRel S κ D w c x) (h:readAt P t (cs.drop off)=some av) :
  ∃ y,(part t arr off).run P w=.ok y w∧VRel S κ D w av y:=by
 unfold readAt at h
 cases hb:isAggB P t with
 | none=>simp [hb] at h
 | some b =>
   cases b with
   | false =>
     simp only [hb] at h
     rw [List.getElem?_drop,Nat.add_zero] at h
     have hlt:off < arr.size:=by have:=(List.getElem?_eq_some_iff.1 h).1; omega
     exact ⟨arr[off],by simp [part,zjf hb,hlt],hr off av _ h (Array.getElem?_eq_getElem hlt)⟩
   | true =>
     simp only [hb] at h
     cases hs:szB P t with
     | none=>simp [hs] at h
     | some n =>
       simp only [hs] at h
       split at h
       case isFalse=>cases h
       rename_i hle
       injection h with h
       subst h
       simp at hle
       refine ⟨.agg (arr.extract off (off+n)),by simp [part,zjf hb,zbs hs],.agg _ _ ?_ ?_ ?_⟩
       · simp; omega
       · intro x hx
         obtain ⟨j,hj⟩:=Array.mem_iff_getElem?.1 hx
         rw [Array.getElem?_extract] at hj
         split at hj
         · exact h1 x (Array.mem_of_getElem? hj)
         · cases hj
       · intro j c x hj hx
         rw [Array.getElem?_extract] at hx
         rw [List.getElem?_take] at hj
         split at hj
         case isFalse=>cases hj
         rw [List.getElem?_drop] at hj
         split at hx
         · exact hr _ c x hj hx
         · cases hx
def Dis (D:Nat→Prop) (r:Res):Prop:=∀ b∈r.frz,D b∧b ∉ ids r.set∧r.kill≠some b
end
end Go.Ab
