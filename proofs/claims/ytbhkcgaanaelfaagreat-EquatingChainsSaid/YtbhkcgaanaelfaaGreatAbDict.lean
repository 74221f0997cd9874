/- Dictionaries: how data of plain types read as cells, and small laws on trees. -/
import Derived.Test.YtbhkcgaanaelfaaGreatAbTree
namespace Go.Ab
open Go.RowKit
section
open Classical
noncomputable abbrev TyD.of (α:Type) (enc:α→List AV) (inj:∀ x y,enc x=enc y→x=y):TyD where
 α:=α
 enc:=enc
 dec:=fun c=>if h:∃ x,c=enc x then some (Classical.choose h) else none
 ok:=fun c x h=>by
  split at h
  · rename_i hx
    injection h with h
    rw [← h]
    exact Classical.choose_spec hx
  · cases h
 de:=fun x=>by
  have h:∃ y,enc x=enc y:=⟨x,rfl⟩
  rw [dif_pos h]
  exact congrArg some (inj _ _ (Classical.choose_spec h)).symm
noncomputable abbrev RD.of (α:Type) (enc:α→AV×Mem) (inj:∀ x y,enc x=enc y→x=y):RD where
 α:=α
 enc:=enc
 dec:=fun c=>if h:∃ x,c=enc x then some (Classical.choose h) else none
 ok:=fun c x h=>by
  split at h
  · rename_i hx
    injection h with h
    rw [← h]
    exact Classical.choose_spec hx
  · cases h
 de:=fun x=>by
  have h:∃ y,enc x=enc y:=⟨x,rfl⟩
  rw [dif_pos h]
  exact congrArg some (inj _ _ (Classical.choose_spec h)).symm
end
theorem TyD.inj (D:TyD) {x y:D.α} (h:D.enc x=D.enc y):x=y:=by
 have h1:=D.de x
 rw [h,D.de y] at h1
 injection h1 with h1
 exact h1.symm
theorem TyD.minj (D:TyD) {l l':List D.α}:(List.map D.enc l=List.map D.enc l')=(l=l'):=by
 refine propext ⟨fun h=>?_,fun h=>by rw [h]⟩
 induction l generalizing l' with
 | nil=>cases l' with
   | nil=>rfl
   | cons a r=>simp at h
 | cons a r ih=>cases l' with
   | nil=>simp at h
   | cons b s =>
     simp only [List.map_cons,List.cons.injEq] at h
     rw [D.inj h.1,ih h.2]
abbrev dRaw:TyD:={ α:=List AV,enc:=id,dec:=some,ok:=fun c x h=>by injection h,de:=fun _=>rfl }
noncomputable def zaj:Int→List AV:=fun x=>[I x]
noncomputable abbrev zay:TyD:=TyD.of Int zaj (by intro x y h; simpa [zaj] using h)
noncomputable def nI_i32:Int→List AV:=fun x=>[.v (.int .i32 x)]
noncomputable abbrev dI_i32:TyD:=TyD.of Int nI_i32 (by intro x y h; simpa [nI_i32] using h)
noncomputable def zll:Int→List AV:=fun x=>[.v (.int .u64 x)]
noncomputable abbrev zmf:TyD:=TyD.of Int zll (by intro x y h; simpa [zll] using h)
noncomputable def nI_u32:Int→List AV:=fun x=>[.v (.int .u32 x)]
noncomputable abbrev dI_u32:TyD:=TyD.of Int nI_u32 (by intro x y h; simpa [nI_u32] using h)
noncomputable def nI_u8:Int→List AV:=fun x=>[.v (.int .u8 x)]
noncomputable abbrev dI_u8:TyD:=TyD.of Int nI_u8 (by intro x y h; simpa [nI_u8] using h)
noncomputable def nBool:Bool→List AV:=fun x=>[B x]
noncomputable abbrev dBool:TyD:=TyD.of Bool nBool (by intro x y h; simpa [nBool] using h)
noncomputable def nStr:ByteArray→List AV:=fun x=>[.v (.string x)]
noncomputable abbrev dStr:TyD:=TyD.of ByteArray nStr (by intro x y h; simpa [nStr] using h)
noncomputable abbrev rRaw:RD:={ α:=AV×Mem,enc:=id,dec:=some,ok:=fun c x h=>by injection h,de:=fun _=>rfl }
theorem elemD_bind {β:Type} (D:TyD) (l:List D.α) (i:Nat) (k:D.α→Option β):elemD D (List.map D.enc l) i k=(l[i]?).bind k:=by
 unfold elemD
 rw [List.getElem?_map]
 cases l[i]? <;> simp [D.de]
@[simp] theorem zx0 {β:Type} (l:List Int) (i:Nat) (k:Int→Option β):elemD zay (List.map zaj l) i k=(l[i]?).bind k:=elemD_bind zay l i k
theorem zru {β:Type} {p:Prop} [Decidable p] (h:p) (t e:Option β):brn (decide p) t e=t:=by rw [zag,if_pos h]
theorem brn_neg {β:Type} {p:Prop} [Decidable p] (h:¬p) (t e:Option β):brn (decide p) t e=e:=by rw [zag,if_neg h]
theorem elemD_get {β:Type} {D:TyD} {l:List D.α} {i:Nat} (h:i < l.length) (k:D.α→Option β):elemD D (List.map D.enc l) i k=k l[i]:=
 zgG (List.getElem?_eq_getElem h) k
abbrev w64 (n:Int):Int:=IntKind.wrap .i64 n
abbrev wu64 (n:Int):Int:=IntKind.wrap .u64 n
theorem w64_id {n:Int} (h1:-9223372036854775808≤n) (h2:n < 9223372036854775808):w64 n=n:=by
 simp only [w64,IntKind.wrap,IntKind.bits,IntKind.signed,show ((2:Int) ^ 64)=18446744073709551616 from rfl,show ((2:Int) ^ (64 - 1))=9223372036854775808 from rfl,Bool.true_and,decide_eq_true_eq]
 split <;> omega
theorem zc9 {n:Int} (h1:0≤n) (h2:n < 18446744073709551616):wu64 n=n:=by
 simp only [wu64,IntKind.wrap,IntKind.bits,IntKind.signed,show ((2:Int) ^ 64)=18446744073709551616 from rfl,Bool.false_and]
 simp only [Bool.false_eq_true,if_false]
 omega
section
variable {P:Program} {kt:TypeId} {κ ν:Type} [DecidableEq κ] {kenc:κ→AV} {venc:ν→AV}
end
structure VD where
 α:Type
 enc:α→AV
 inj:∀ x y,enc x=enc y→x=y
abbrev vRow (b z:Nat):VD:=⟨Nat,fun n=>.row b z 0 n,by intro x y h; simpa using h⟩
structure LD where
 α:Type
 enc:α→List AV
 inj:∀ x y,enc x=enc y→x=y
structure MD where
 α:Type
 enc:α→Mem
 inj:∀ x y,enc x=enc y→x=y
abbrev vI (k:IntKind):VD:=⟨Int,fun x=>.v (.int k x),fun x y h=>by simpa using h⟩
abbrev vBool:VD:=⟨Bool,fun x=>.v (.bool x),fun x y h=>by simpa using h⟩
abbrev vAgg (D:TyD):VD:=⟨D.α,fun x=>.agg (D.enc x),fun x y h=>D.inj (by simpa using h)⟩
abbrev vSl (z:Nat) (D:TyD):VD:=⟨List D.α,fun x=>.sl z (List.map D.enc x),fun x y h=>by simpa only [AV.sl.injEq,true_and,TyD.minj] using h⟩
abbrev vNew (z:Nat) (e:TypeId) (D:TyD):VD:=⟨List D.α,fun x=>.new z e (List.map D.enc x),fun x y h=>by simpa only [AV.new.injEq,true_and,TyD.minj] using h⟩
abbrev vNewp (z:Nat) (e:TypeId) (D:TyD):VD:=⟨D.α,fun x=>.newp z e (D.enc x),fun x y h=>D.inj (by simpa using h)⟩
abbrev lOne (V:VD):LD:=⟨V.α,fun x=>[V.enc x],fun x y h=>V.inj x y (by simpa using h)⟩
abbrev lCons (V:VD) (L:LD):LD:=⟨V.α×L.α,fun x=>V.enc x.1 :: L.enc x.2,fun x y h=>by
 simp only [List.cons.injEq] at h
 exact Prod.ext (V.inj _ _ h.1) (L.inj _ _ h.2)⟩
abbrev mBox (k z:Nat) (e:TypeId) (D:TyD):MD:=⟨D.α,fun x=>[(k,⟨z,e,[D.enc x],true⟩)],fun x y h=>D.inj (by simpa using h)⟩
abbrev mRow (k z:Nat) (e:TypeId) (D:TyD):MD:=⟨List D.α,fun x=>[(k,⟨z,e,List.map D.enc x,false⟩)],fun x y h=>by
 simpa only [List.cons.injEq,Prod.mk.injEq,Ent.mk.injEq,true_and,and_true,TyD.minj] using h⟩
noncomputable abbrev r0:RD:=RD.of Unit (fun _=>(.tup [],[])) (fun x y _=>by cases x; cases y; rfl)
noncomputable abbrev r1 (V:VD):RD:=RD.of V.α (fun x=>(V.enc x,[])) (fun x y h=>V.inj x y (by simpa using h))
noncomputable abbrev rT (L:LD):RD:=RD.of L.α (fun x=>(.tup (L.enc x),[])) (fun x y h=>L.inj x y (by simpa using h))
noncomputable abbrev r0M (M:MD):RD:=RD.of M.α (fun x=>(.tup [],M.enc x)) (fun x y h=>M.inj x y (by simpa using h))
noncomputable abbrev r1M (V:VD) (M:MD):RD:=RD.of (V.α×M.α) (fun x=>(V.enc x.1,M.enc x.2)) (fun x y h=>by
 simp only [Prod.mk.injEq] at h
 exact Prod.ext (V.inj _ _ h.1) (M.inj _ _ h.2))
noncomputable abbrev rTM (L:LD) (M:MD):RD:=RD.of (L.α×M.α) (fun x=>(.tup (L.enc x.1),M.enc x.2)) (fun x y h=>by
 simp only [Prod.mk.injEq,AV.tup.injEq] at h
 exact Prod.ext (L.inj _ _ h.1) (M.inj _ _ h.2))
noncomputable def Dic.of (ty:List TyD) (res:List RD):Dic:={ ty:=fun t=>ty.getD t dRaw,res:=fun f=>res.getD f rRaw }
end Go.Ab
