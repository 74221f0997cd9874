/- The statement holds for every input: the walk is what the abstract interpreter computes, the frame is the guide's. -/
import Derived.Test.YticojpmhlhfhlaaGreatS31
import Derived.Test.YticojpmhlhfhlaaGreatOpen
import Derived.Test.YticojpmhlhfhlaaGreatRows
import Derived.WalkKit
import Derived.ProofKit
import Derived.OpenShut
import Derived.ShutString
import Derived.ChangeOld
import Derived.Below
namespace Go.Proofs.YticojpmhlhfhlaaGreat.severityExact
open Go.ChangeShapes Go.WideShapes Go.ChangeAt Go.RowKit
open Go.ChangeMaps (open_string shut_string)
open Go.Ab
set_option linter.unusedVariables false
theorem own:ownKnob Tryz.prog.godebug=none:=by kernel_rfl
theorem laidOut:laidOutB Tryz.prog=true:=by kernel_rfl
theorem rdI (w:World):Rd Tryz.prog w 3 1 zaa:=rd_int (by kernel_rfl) Tryz.underlying3
theorem rdJ (w:World):Rd Tryz.prog w 53 3 zan:=by
 have h:=rd_struct (t:=53) (by kernel_rfl) Tryz.underlying53 (zDk (rdI w) rfl (zDk (rdI w) rfl (zDk (rdI w) rfl rdf_nil)))
 exact rd_map h (fun v=>(⟨v.1,v.2.1,v.2.2.1⟩:GJudged)) (fun _=>rfl) (fun _=>rfl)
theorem rdLI (w:World):Rd Tryz.prog w 22 1 (fun l:List Int=>[AV.sl 1 (l.map zaa)]):=rd_slice (by kernel_rfl) Tryz.underlying22 (by decide) (rdI w)
theorem rdLJ (w:World):Rd Tryz.prog w 23 1 (fun l:List GJudged=>[AV.sl 3 (l.map zan)]):=rd_slice (by kernel_rfl) Tryz.underlying23 (by decide) (rdJ w)
theorem walk (v0 v1 v2 v3:Value) (t:List Int) (raw:List GJudged) (a b:List Int) (n:Int) (w:World)
  (h0:VRel (Old w) (fun _=>none) (fun _=>False) w (.sl 1 (t.map zaa)) v0) (h1:VRel (Old w) (fun _=>none) (fun _=>False) w (.sl 3 (raw.map zan)) v1) (h2:VRel (Old w) (fun _=>none) (fun _=>False) w (.sl 1 (a.map zaa)) v2)
  (h3:VRel (Old w) (fun _=>none) (fun _=>False) w (.sl 1 (b.map zaa)) v3) :
  Calls Tryz.prog 3 #[v0,v1,v2,v3,.int .i64 n] w fun e w'=>e=.returned (.bool true)∧Below w.heap.size w w':=by
 refine zFP (x:=.bool true) (ms:=[]) (zJx t raw a b n) w _ rfl ?_
 intro k a y ha hy
 match k,ha,hy with
 | 0,ha,hy=>injection ha with ha; injection hy with hy; subst ha; subst hy; exact h0
 | 1,ha,hy=>injection ha with ha; injection hy with hy; subst ha; subst hy; exact h1
 | 2,ha,hy=>injection ha with ha; injection hy with hy; subst ha; subst hy; exact h2
 | 3,ha,hy=>injection ha with ha; injection hy with hy; subst ha; subst hy; exact h3
 | 4,ha,hy=>injection ha with ha; injection hy with hy; subst ha; subst hy; exact .c (.v _)
 | k+5,ha,hy=>simp at ha
set_option maxRecDepth 100000 in
theorem lifted (os:Os) (started:os.Started) (H:Type) (enc:TypeId×Value→H) :
  ReturnsInHanded {} Tryz.checked os 3 .any (Rows.severityExactSpec.pre6 enc Tryz.prog Tryz.f3 Rows.severityExactRow.domain false) (Rows.severityExactSpec.post enc Tryz.prog Tryz.f3 false true false false):=by
 refine returnsInHanded_of_change (C:=Tryz.checked) own started (by kernel_rfl) Tryz.func3
  (ChangeSpec.witness6 (enc:=enc) (C:=Tryz.checked) false ⟨#[],#[.slice none 0 0,.slice none 0 0,.slice none 0 0,.slice none 0 0,.int .i64 0],[]⟩ 8 (by kernel_rfl) (by kernel_rfl) (by kernel_rfl) (by kernel_rfl)) ?_
 intro W base args ds gs before hval0 hW hcnd _
 have hval:∀ (j:Nat) t v,Tryz.f3.params[j]?=some t→args[j]?=some v→Value.okWide Tryz.prog W .any base t v:=hval0
 have hW':=hW
 obtain ⟨p,q,hA0,hV,rfl,hfz,hnd⟩:=hW
 have hA:DataW.TrodAll enc Tryz.prog W 0 (fun _=>true) true Tryz.f3.params.toList args.toList ds p:=hA0
 rw [Tryz.params3] at hA hval
 obtain ⟨v0,vs0,d0,ds0,p0,q0,hargs,rfl,rfl,h0,r0⟩:=trodAll_cons hA
 obtain ⟨v1,vs1,d1,ds1,p1,q1,rfl,rfl,rfl,h1,r1⟩:=trodAll_cons r0
 obtain ⟨v2,vs2,d2,ds2,p2,q2,rfl,rfl,rfl,h2,r2⟩:=trodAll_cons r1
 obtain ⟨v3,vs3,d3,ds3,p3,q3,rfl,rfl,rfl,h3,r3⟩:=trodAll_cons r2
 obtain ⟨v4,vs4,d4,ds4,p4,q4,rfl,rfl,rfl,h4,r4⟩:=trodAll_cons r3
 obtain ⟨rfl,rfl,rfl⟩:=trodAll_nil r4
 obtain rfl:args=#[v0,v1,v2,v3,v4]:=by cases args; simp_all
 obtain ⟨rfl,rfl⟩:=trodVars_none hV
 obtain ⟨a0,len0,cap0,rfl⟩:=okWide_slice Tryz.underlying22 (hval 0 22 v0 rfl rfl)
 obtain ⟨a1,len1,cap1,rfl⟩:=okWide_slice Tryz.underlying23 (hval 1 23 v1 rfl rfl)
 obtain ⟨a2,len2,cap2,rfl⟩:=okWide_slice Tryz.underlying22 (hval 2 22 v2 rfl rfl)
 obtain ⟨a3,len3,cap3,rfl⟩:=okWide_slice Tryz.underlying22 (hval 3 22 v3 rfl rfl)
 have k0:=h0
 have lt0:∀ x∈p0,x.block < W.heap.size:=by obtain ⟨m,hm⟩:=k0; exact DataW.trod_lt m _ _ _ hm
 have k1:=h1
 have lt1:∀ x∈p1,x.block < W.heap.size:=by obtain ⟨m,hm⟩:=k1; exact DataW.trod_lt m _ _ _ hm
 have k2:=h2
 have lt2:∀ x∈p2,x.block < W.heap.size:=by obtain ⟨m,hm⟩:=k2; exact DataW.trod_lt m _ _ _ hm
 have k3:=h3
 have lt3:∀ x∈p3,x.block < W.heap.size:=by obtain ⟨m,hm⟩:=k3; exact DataW.trod_lt m _ _ _ hm
 obtain ⟨z0,w0⟩:=zzg (κ:=fun _=>none) (D:=fun _=>False) (f:=fun l:List Int=>AV.sl 1 (l.map zaa)) (rdLI W) rfl h0
 obtain ⟨z1,w1⟩:=zzg (κ:=fun _=>none) (D:=fun _=>False) (f:=fun l:List GJudged=>AV.sl 3 (l.map zan)) (rdLJ W) rfl h1
 obtain ⟨z2,w2⟩:=zzg (κ:=fun _=>none) (D:=fun _=>False) (f:=fun l:List Int=>AV.sl 1 (l.map zaa)) (rdLI W) rfl h2
 obtain ⟨z3,w3⟩:=zzg (κ:=fun _=>none) (D:=fun _=>False) (f:=fun l:List Int=>AV.sl 1 (l.map zaa)) (rdLI W) rfl h3
 obtain ⟨n4,rfl,rfl,rfl,w4⟩:=open_int Tryz.underlying3 (hval 4 3 v4 rfl rfl) h4
 clear hA0 hval0
 refine (walk _ _ _ _ z0 z1 z2 z3 n4 W w0 w1 w2 w3).mono fun e W' ⟨he,bel⟩=>?_
 subst he
 exact ⟨_,rfl,_,_,_,[],_,[],hW',trodAll_mk1 (shut_bool Tryz.underlying4 _),(trodAll_cons_mk (Below.trod laidOut (by kernel_rfl) (of_decide_eq_true (by kernel_rfl)) k0 bel lt0) (trodAll_cons_mk (Below.trod laidOut (by kernel_rfl) (of_decide_eq_true (by kernel_rfl)) k1 bel lt1) (trodAll_cons_mk (Below.trod laidOut (by kernel_rfl) (of_decide_eq_true (by kernel_rfl)) k2 bel lt2) (trodAll_cons_mk (Below.trod laidOut (by kernel_rfl) (of_decide_eq_true (by kernel_rfl)) k3 bel lt3) (trodAll_cons_mk (shut_int Tryz.underlying3 w4) trodAll_mk0))))),rfl,bel.frame _,fun h=>by cases h⟩
theorem over:Rows.severityExactRow.holds Tryz.pinned (OpenSpec.ofChange Rows.severityExactSpec):=
 OpenClaim.holds_of_wide 3 Tryz.f3 rfl rfl rfl rfl rfl rfl rfl ⟨rfl,rfl,rfl,rfl,rfl⟩ rfl rfl rfl rfl rfl (by kernel_rfl) Tryz.func3 (by kernel_rfl)
  (of_decide_eq_true (by kernel_rfl)) (by unfold Func.isWrapper; first | (rw [if_pos (by decide +kernel)]; kernel_rfl) | (rw [if_neg (by decide +kernel)]; exact ⟨rfl,rfl⟩))
  (fun os started H enc _=>lifted os started H enc)
theorem proved:Rows.SeverityExactSaid:=over
#print axioms proved
end Go.Proofs.YticojpmhlhfhlaaGreat.severityExact
