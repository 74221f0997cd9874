/- The statement holds for every input: the walk is what the abstract interpreter computes, the frame is the guide's. -/
import Derived.Test.YtbhkcgaanaelfaaGreatJ2
import Derived.Test.YtbhkcgaanaelfaaGreatRows
import Derived.WalkKit
import Derived.ProofKit
import Derived.OpenShut
import Derived.ShutString
import Derived.ChangeOld
import Derived.Below
namespace Go.Proofs.YtbhkcgaanaelfaaGreat.equatingExact
open Go.ChangeShapes Go.WideShapes Go.ChangeAt Go.RowKit
open Go.ChangeMaps (open_string shut_string)
open Go.Ab
set_option linter.unusedVariables false
theorem own:ownKnob Tryz.prog.godebug=none:=by kernel_rfl
theorem laidOut:laidOutB Tryz.prog=true:=by kernel_rfl
theorem rd3 (w:World):Rd Tryz.prog w 3 1 zai:=rd_int (by kernel_rfl) Tryz.underlying3
theorem rd22 (w:World):Rd Tryz.prog w 22 1 (fun l:List Int=>[AV.sl 1 (l.map zai)]):=rd_slice (by kernel_rfl) Tryz.underlying22 (by decide) (rd3 w)
theorem rd58 (w:World):Rd Tryz.prog w 58 1 zab:=by
 have h:=zrH (t:=58) (by kernel_rfl) Tryz.underlying58 (zo1 (rd22 w) rfl zvy)
 exact rd_map h (fun v=>(⟨v.1⟩:GDistribution)) (fun _=>rfl) (fun _=>rfl)
theorem rd27 (w:World):Rd Tryz.prog w 27 2 zaa:=by
 have h:=zrH (t:=27) (by kernel_rfl) Tryz.underlying27 (zo1 (rd3 w) rfl (zo1 (rd3 w) rfl zvy))
 exact rd_map h (fun v=>(⟨v.1,v.2.1⟩:GRatio)) (fun _=>rfl) (fun _=>rfl)
theorem rd77 (w:World):Rd Tryz.prog w 77 4 zag:=by
 have h:=zrH (t:=77) (by kernel_rfl) Tryz.underlying77 (zo1 (rd27 w) rfl (zo1 (rd27 w) rfl zvy))
 exact rd_map h (fun v=>(⟨v.1,v.2.1⟩:GPoint)) (fun _=>rfl) (fun _=>rfl)
theorem rd23 (w:World):Rd Tryz.prog w 23 1 (fun l:List GPoint=>[AV.sl 4 (l.map zag)]):=rd_slice (by kernel_rfl) Tryz.underlying23 (by decide) (rd77 w)
theorem rd25 (w:World):Rd Tryz.prog w 25 1 zak:=by
 have h:=zrH (t:=25) (by kernel_rfl) Tryz.underlying25 (zo1 (rd23 w) rfl zvy)
 exact rd_map h (fun v=>(⟨v.1⟩:GCurve)) (fun _=>rfl) (fun _=>rfl)
theorem walk (v0 v1 v2:Value) (x0:List Int) (x1:GDistribution) (x2:GCurve) (x3:Int) (x4:Int) (x5:Int) (w:World)
  (h0:VRel (Old w) (fun _=>none) (fun _=>False) w (.sl 1 (x0.map zai)) v0) (h1:VRel (Old w) (fun _=>none) (fun _=>False) w (.agg (zab x1)) v1) (h2:VRel (Old w) (fun _=>none) (fun _=>False) w (.agg (zak x2)) v2) :
  Calls Tryz.prog 5 #[v0,v1,v2,.int .i64 x3,.int .i64 x4,.int .i64 x5] w fun e w'=>e=.returned (.bool true)∧Below w.heap.size w w':=by
 refine zyx (x:=.bool true) (ms:=[]) (zvL x0 x1 x2 x3 x4 x5) w _ rfl ?_
 intro k a y ha hy
 match k,ha,hy with
 | 0,ha,hy=>injection ha with ha; injection hy with hy; subst ha; subst hy; exact h0
 | 1,ha,hy=>injection ha with ha; injection hy with hy; subst ha; subst hy; exact h1
 | 2,ha,hy=>injection ha with ha; injection hy with hy; subst ha; subst hy; exact h2
 | 3,ha,hy=>injection ha with ha; injection hy with hy; subst ha; subst hy; exact .c (.v _)
 | 4,ha,hy=>injection ha with ha; injection hy with hy; subst ha; subst hy; exact .c (.v _)
 | 5,ha,hy=>injection ha with ha; injection hy with hy; subst ha; subst hy; exact .c (.v _)
 | k+6,ha,hy=>simp at ha
set_option maxRecDepth 100000 in
theorem lifted (os:Os) (started:os.Started) (H:Type) (enc:TypeId×Value→H) :
  ReturnsInHanded {} Tryz.checked os 5 .any (Rows.equatingExactSpec.pre6 enc Tryz.prog Tryz.f5 Rows.equatingExactRow.domain false) (Rows.equatingExactSpec.post enc Tryz.prog Tryz.f5 false true false false):=by
 refine returnsInHanded_of_change (C:=Tryz.checked) own started (by kernel_rfl) Tryz.func5
  (ChangeSpec.witness6 (enc:=enc) (C:=Tryz.checked) false ⟨#[],#[.slice none 0 0,.agg #[.slice none 0 0],.agg #[.slice none 0 0],.int .i64 0,.int .i64 0,.int .i64 0],[]⟩ 8 (by kernel_rfl) (by kernel_rfl) (by kernel_rfl) (by kernel_rfl)) ?_
 intro W base args ds gs before hval0 hW hcnd _
 have hval:∀ (j:Nat) t v,Tryz.f5.params[j]?=some t→args[j]?=some v→Value.okWide Tryz.prog W .any base t v:=hval0
 have hW':=hW
 obtain ⟨p,q,hA0,hV,rfl,hfz,hnd⟩:=hW
 have hA:DataW.TrodAll enc Tryz.prog W 0 (fun _=>true) true Tryz.f5.params.toList args.toList ds p:=hA0
 rw [Tryz.params5] at hA hval
 obtain ⟨v0,vs0,d0,ds0,p0,q0,hargs,rfl,rfl,h0,r0⟩:=trodAll_cons hA
 obtain ⟨v1,vs1,d1,ds1,p1,q1,rfl,rfl,rfl,h1,r1⟩:=trodAll_cons r0
 obtain ⟨v2,vs2,d2,ds2,p2,q2,rfl,rfl,rfl,h2,r2⟩:=trodAll_cons r1
 obtain ⟨v3,vs3,d3,ds3,p3,q3,rfl,rfl,rfl,h3,r3⟩:=trodAll_cons r2
 obtain ⟨v4,vs4,d4,ds4,p4,q4,rfl,rfl,rfl,h4,r4⟩:=trodAll_cons r3
 obtain ⟨v5,vs5,d5,ds5,p5,q5,rfl,rfl,rfl,h5,r5⟩:=trodAll_cons r4
 obtain ⟨rfl,rfl,rfl⟩:=trodAll_nil r5
 obtain rfl:args=#[v0,v1,v2,v3,v4,v5]:=by cases args; simp_all
 obtain ⟨rfl,rfl⟩:=trodVars_none hV
 obtain ⟨a0,len0,cap0,rfl⟩:=okWide_slice Tryz.underlying22 (hval 0 22 v0 rfl rfl)
 obtain ⟨c1,rfl,_⟩:=okWide_struct Tryz.underlying58 (hval 1 58 v1 rfl rfl)
 obtain ⟨c2,rfl,_⟩:=okWide_struct Tryz.underlying25 (hval 2 25 v2 rfl rfl)
 have k0:=h0
 have lt0:∀ x∈p0,x.block < W.heap.size:=by obtain ⟨m,hm⟩:=k0; exact DataW.trod_lt m _ _ _ hm
 have k1:=h1
 have lt1:∀ x∈p1,x.block < W.heap.size:=by obtain ⟨m,hm⟩:=k1; exact DataW.trod_lt m _ _ _ hm
 have k2:=h2
 have lt2:∀ x∈p2,x.block < W.heap.size:=by obtain ⟨m,hm⟩:=k2; exact DataW.trod_lt m _ _ _ hm
 obtain ⟨z0,w0⟩:=arg_cell (κ:=fun _=>none) (D:=fun _=>False) (f:=fun l:List Int=>AV.sl 1 (l.map zai)) (rd22 W) rfl h0
 obtain ⟨z1,w1⟩:=arg_agg (κ:=fun _=>none) (D:=fun _=>False) (rd58 W) h1
 obtain ⟨z2,w2⟩:=arg_agg (κ:=fun _=>none) (D:=fun _=>False) (rd25 W) h2
 obtain ⟨n3,rfl,rfl,rfl,w3⟩:=open_int Tryz.underlying3 (hval 3 3 v3 rfl rfl) h3
 obtain ⟨n4,rfl,rfl,rfl,w4⟩:=open_int Tryz.underlying3 (hval 4 3 v4 rfl rfl) h4
 obtain ⟨n5,rfl,rfl,rfl,w5⟩:=open_int Tryz.underlying3 (hval 5 3 v5 rfl rfl) h5
 clear hA0 hval0
 refine (walk _ _ _ z0 z1 z2 n3 n4 n5 W w0 w1 w2).mono fun e W' ⟨he,bel⟩=>?_
 subst he
 exact ⟨_,rfl,_,_,_,[],_,[],hW',trodAll_mk1 (shut_bool Tryz.underlying4 _),(trodAll_cons_mk (Below.trod laidOut (by kernel_rfl) (of_decide_eq_true (by kernel_rfl)) k0 bel lt0) (trodAll_cons_mk (Below.trod laidOut (by kernel_rfl) (of_decide_eq_true (by kernel_rfl)) k1 bel lt1) (trodAll_cons_mk (Below.trod laidOut (by kernel_rfl) (of_decide_eq_true (by kernel_rfl)) k2 bel lt2) (trodAll_cons_mk (shut_int Tryz.underlying3 w3) (trodAll_cons_mk (shut_int Tryz.underlying3 w4) (trodAll_cons_mk (shut_int Tryz.underlying3 w5) trodAll_mk0)))))),rfl,bel.frame _,fun h=>by cases h⟩
theorem over:Rows.equatingExactRow.holds Tryz.pinned (OpenSpec.ofChange Rows.equatingExactSpec):=
 OpenClaim.holds_of_wide 5 Tryz.f5 rfl rfl rfl rfl rfl rfl rfl ⟨rfl,rfl,rfl,rfl,rfl⟩ rfl rfl rfl rfl rfl (by kernel_rfl) Tryz.func5 (by kernel_rfl)
  (of_decide_eq_true (by kernel_rfl)) (by unfold Func.isWrapper; first | (rw [if_pos (by decide +kernel)]; kernel_rfl) | (rw [if_neg (by decide +kernel)]; exact ⟨rfl,rfl⟩))
  (fun os started H enc _=>lifted os started H enc)
theorem proved:Rows.EquatingExactSaid:=over
#print axioms proved
end Go.Proofs.YtbhkcgaanaelfaaGreat.equatingExact
