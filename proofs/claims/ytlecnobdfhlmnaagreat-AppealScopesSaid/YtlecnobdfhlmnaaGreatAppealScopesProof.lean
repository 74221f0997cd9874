/- The statement holds for every input: the walk is what the abstract interpreter computes, the frame is the guide's. -/
import Derived.Test.YtlecnobdfhlmnaaGreatJ7
import Derived.Test.YtlecnobdfhlmnaaGreatRows
import Derived.WalkKit
import Derived.ProofKit
import Derived.OpenShut
import Derived.ShutString
import Derived.ChangeOld
import Derived.Below
set_option linter.unusedSimpArgs false
set_option linter.unusedVariables false
namespace Go.Proofs.YtlecnobdfhlmnaaGreat.appealScopes
open Go.ChangeShapes Go.WideShapes Go.ChangeAt Go.RowKit
open Go.ChangeMaps (open_string shut_string)
open Go.Ab
theorem own:ownKnob Tryz.prog.godebug=none:=by kernel_rfl
theorem laidOut:laidOutB Tryz.prog=true:=by kernel_rfl
theorem rd3(w:World):Rd Tryz.prog w 3 1 zai:=rd_int (by kernel_rfl) Tryz.underlying3
theorem rd22(w:World):Rd Tryz.prog w 22 1 (λl:List Int=>[AV.sl 1 (l.map zai)]):=rd_slice (by kernel_rfl) Tryz.underlying22 (by decide) (rd3 w)
theorem walk(v0:Value)(x0:List Int)(w:World)
  (h0:VRel (Old w) (λ_=>none) (λ_=>False) w (.sl 1 (x0.map zai)) v0):Calls Tryz.prog 7 #[v0] w λe w'=>e=.returned (.bool true)/\Below w.heap.size w w':=by
 refine zF8 (x:=.bool true) (ms:=[]) (zK5 x0) w _ rfl ?_
 intro k a y ha hy
 match k,ha,hy with
 |0,ha,hy=>injection ha with ha;injection hy with hy;subst ha;subst hy;exact h0
 |k+1,ha,hy=>simp at ha
set_option maxRecDepth 100000 in
theorem lifted(os:Os)(started:os.Started)(H:Type)(enc:TypeId×Value->H):ReturnsInHanded {} Tryz.checked os 7 .any (Rows.appealScopesSpec.pre6 enc Tryz.prog Tryz.f7 Rows.appealScopesRow.domain false) (Rows.appealScopesSpec.post enc Tryz.prog Tryz.f7 false true false false):=by
 refine returnsInHanded_of_change (C:=Tryz.checked) own started (by kernel_rfl) Tryz.func7
  (ChangeSpec.witness6 (enc:=enc) (C:=Tryz.checked) false ⟨#[],#[.slice none 0 0],[]⟩ 8 (by kernel_rfl) (by kernel_rfl) (by kernel_rfl) (by kernel_rfl)) ?_
 intro W base args ds gs before hval0 hW hcnd _
 have hval:∀(j:Nat) t v,Tryz.f7.params[j]?=some t->args[j]?=some v->Value.okWide Tryz.prog W .any base t v:=hval0
 have hW':=hW
 obtain⟨p,q,hA0,hV,rfl,hfz,hnd⟩:=hW
 have hA:DataW.TrodAll enc Tryz.prog W 0 (λ_=>true) true Tryz.f7.params.toList args.toList ds p:=hA0
 rw[Tryz.params7]at hA hval
 obtain⟨v0,vs0,d0,ds0,p0,q0,hargs,rfl,rfl,h0,r0⟩:=trodAll_cons hA
 obtain⟨rfl,rfl,rfl⟩:=trodAll_nil r0
 obtain rfl:args=#[v0]:=by cases args;simp_all
 obtain⟨rfl,rfl⟩:=trodVars_none hV
 obtain⟨a0,len0,cap0,rfl⟩:=okWide_slice Tryz.underlying22 (hval 0 22 v0 rfl rfl)
 have k0:=h0
 have lt0:∀x∈p0,x.block<W.heap.size:=by obtain⟨m,hm⟩:=k0;exact DataW.trod_lt m _ _ _ hm
 obtain⟨z0,w0⟩:=arg_cell (κ:=λ_=>none) (D:=λ_=>False) (f:=λl:List Int=>AV.sl 1 (l.map zai)) (rd22 W) rfl h0
 clear hA0 hval0
 refine(walk _ z0 W w0).mono λe W' ⟨he,bel⟩=>?_
 subst he
 exact⟨_,rfl,_,_,_,[],_,[],hW',trodAll_mk1 (shut_bool Tryz.underlying4 _),(trodAll_cons_mk (Below.trod laidOut (by kernel_rfl) (of_decide_eq_true (by kernel_rfl)) k0 bel lt0) trodAll_mk0),rfl,bel.frame _,λh=>by cases h⟩
theorem over:Rows.appealScopesRow.holds Tryz.pinned (OpenSpec.ofChange Rows.appealScopesSpec):=
 OpenClaim.holds_of_wide 7 Tryz.f7 rfl rfl rfl rfl rfl rfl rfl ⟨rfl,rfl,rfl,rfl,rfl⟩ rfl rfl rfl rfl rfl (by kernel_rfl) Tryz.func7 (by kernel_rfl)
  (of_decide_eq_true (by kernel_rfl)) (by unfold Func.isWrapper;first|(rw[if_pos (by decide +kernel)];kernel_rfl)|(rw[if_neg (by decide +kernel)];exact⟨rfl,rfl⟩))
  (λos started H enc _=>lifted os started H enc)
theorem proved:Rows.AppealScopesSaid:=over
#print axioms proved
end Go.Proofs.YtlecnobdfhlmnaaGreat.appealScopes
