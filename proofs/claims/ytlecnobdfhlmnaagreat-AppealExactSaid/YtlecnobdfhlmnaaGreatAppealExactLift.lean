/- The statement holds for every input: the walk is what the abstract interpreter computes, the frame is the guide's. -/
import Derived.Test.YtlecnobdfhlmnaaGreatJ3
import Derived.Test.YtlecnobdfhlmnaaGreatRows
import Derived.WalkKit
import Derived.ProofKit
import Derived.OpenShut
import Derived.ShutString
import Derived.ChangeOld
import Derived.Below
set_option linter.unusedSimpArgs false
set_option linter.unusedVariables false
namespace Go.Proofs.YtlecnobdfhlmnaaGreat.appealExact
open Go.ChangeShapes Go.WideShapes Go.ChangeAt Go.RowKit
open Go.ChangeMaps (open_string shut_string)
open Go.Ab
theorem own:ownKnob Tryz.prog.godebug=none:=by kernel_rfl
theorem laidOut:laidOutB Tryz.prog=true:=by kernel_rfl
theorem rd3(w:World):Rd Tryz.prog w 3 1 zah:=rd_int (by kernel_rfl) Tryz.underlying3
theorem rd22(w:World):Rd Tryz.prog w 22 1 (λl:List Int=>[AV.sl 1 (l.map zah)]):=rd_slice (by kernel_rfl) Tryz.underlying22 (by decide) (rd3 w)
theorem rd60(w:World):Rd Tryz.prog w 60 3 zcc:=by
 have h:=zDw (t:=60) (by kernel_rfl) Tryz.underlying60 (zm1 (rd3 w) rfl (zm1 (rd3 w) rfl (zm1 (rd3 w) rfl rdf_nil)))
 exact rd_map h (λv=>(⟨v.1,v.2.1,v.2.2.1⟩:zbf)) (λ_=>rfl) (λ_=>rfl)
theorem rd62(w:World):Rd Tryz.prog w 62 6 zai:=by
 have h:=zDw (t:=62) (by kernel_rfl) Tryz.underlying62 (zm1 (rd60 w) rfl (zm1 (rd3 w) rfl (zm1 (rd3 w) rfl (zm1 (rd3 w) rfl rdf_nil))))
 exact rd_map h (λv=>(⟨v.1,v.2.1,v.2.2.1,v.2.2.2.1⟩:zan)) (λ_=>rfl) (λ_=>rfl)
theorem rd39(w:World):Rd Tryz.prog w 39 1 (λl:List zan=>[AV.sl 6 (l.map zai)]):=rd_slice (by kernel_rfl) Tryz.underlying39 (by decide) (rd62 w)
theorem rd42(w:World):Rd Tryz.prog w 42 3 zaK:=by
 have h:=zDw (t:=42) (by kernel_rfl) Tryz.underlying42 (zm1 (rd3 w) rfl (zm1 (rd3 w) rfl (zm1 (rd3 w) rfl rdf_nil)))
 exact rd_map h (λv=>(⟨v.1,v.2.1,v.2.2.1⟩:zaP)) (λ_=>rfl) (λ_=>rfl)
theorem walk(v0 v1 v2:Value)(x0:List Int)(x1:List zan)(x2:zaP)(x3:Int)(w:World)
  (h0:VRel (Old w) (λ_=>none) (λ_=>False) w (.sl 1 (x0.map zah)) v0) (h1:VRel (Old w) (λ_=>none) (λ_=>False) w (.sl 6 (x1.map zai)) v1) (h2:VRel (Old w) (λ_=>none) (λ_=>False) w (.agg (zaK x2)) v2):Calls Tryz.prog 6 #[v0,v1,v2,.int .i64 x3] w λe w'=>e=.returned (.bool true)/\Below w.heap.size w w':=by
 refine zIQ (x:=.bool true) (ms:=[]) (zH0 x0 x1 x2 x3) w _ rfl ?_
 intro k a y ha hy
 match k,ha,hy with
 |0,ha,hy=>injection ha with ha;injection hy with hy;subst ha;subst hy;exact h0
 |1,ha,hy=>injection ha with ha;injection hy with hy;subst ha;subst hy;exact h1
 |2,ha,hy=>injection ha with ha;injection hy with hy;subst ha;subst hy;exact h2
 |3,ha,hy=>injection ha with ha;injection hy with hy;subst ha;subst hy;exact .c (.v _)
 |k+4,ha,hy=>simp at ha
set_option maxRecDepth 100000 in
theorem lifted(os:Os)(started:os.Started)(H:Type)(enc:TypeId×Value->H):ReturnsInHanded {} Tryz.checked os 6 .any (Rows.appealExactSpec.pre6 enc Tryz.prog Tryz.f6 Rows.appealExactRow.domain false) (Rows.appealExactSpec.post enc Tryz.prog Tryz.f6 false true false false):=by
 refine returnsInHanded_of_change (C:=Tryz.checked) own started (by kernel_rfl) Tryz.func6
  (ChangeSpec.witness6 (enc:=enc) (C:=Tryz.checked) false ⟨#[],#[.slice none 0 0,.slice none 0 0,.agg #[.int .i64 0,.int .i64 0,.int .i64 0],.int .i64 0],[]⟩ 8 (by kernel_rfl) (by kernel_rfl) (by kernel_rfl) (by kernel_rfl)) ?_
 intro W base args ds gs before hval0 hW hcnd _
 have hval:∀(j:Nat) t v,Tryz.f6.params[j]?=some t->args[j]?=some v->Value.okWide Tryz.prog W .any base t v:=hval0
 have hW':=hW
 obtain⟨p,q,hA0,hV,rfl,hfz,hnd⟩:=hW
 have hA:DataW.TrodAll enc Tryz.prog W 0 (λ_=>true) true Tryz.f6.params.toList args.toList ds p:=hA0
 rw[Tryz.params6]at hA hval
 obtain⟨v0,vs0,d0,ds0,p0,q0,hargs,rfl,rfl,h0,r0⟩:=trodAll_cons hA
 obtain⟨v1,vs1,d1,ds1,p1,q1,rfl,rfl,rfl,h1,r1⟩:=trodAll_cons r0
 obtain⟨v2,vs2,d2,ds2,p2,q2,rfl,rfl,rfl,h2,r2⟩:=trodAll_cons r1
 obtain⟨v3,vs3,d3,ds3,p3,q3,rfl,rfl,rfl,h3,r3⟩:=trodAll_cons r2
 obtain⟨rfl,rfl,rfl⟩:=trodAll_nil r3
 obtain rfl:args=#[v0,v1,v2,v3]:=by cases args;simp_all
 obtain⟨rfl,rfl⟩:=trodVars_none hV
 obtain⟨a0,len0,cap0,rfl⟩:=okWide_slice Tryz.underlying22 (hval 0 22 v0 rfl rfl)
 obtain⟨a1,len1,cap1,rfl⟩:=okWide_slice Tryz.underlying39 (hval 1 39 v1 rfl rfl)
 obtain⟨c2,rfl,_⟩:=okWide_struct Tryz.underlying42 (hval 2 42 v2 rfl rfl)
 have k0:=h0
 have lt0:∀x∈p0,x.block<W.heap.size:=by obtain⟨m,hm⟩:=k0;exact DataW.trod_lt m _ _ _ hm
 have k1:=h1
 have lt1:∀x∈p1,x.block<W.heap.size:=by obtain⟨m,hm⟩:=k1;exact DataW.trod_lt m _ _ _ hm
 have k2:=h2
 have lt2:∀x∈p2,x.block<W.heap.size:=by obtain⟨m,hm⟩:=k2;exact DataW.trod_lt m _ _ _ hm
 obtain⟨z0,w0⟩:=arg_cell (κ:=λ_=>none) (D:=λ_=>False) (f:=λl:List Int=>AV.sl 1 (l.map zah)) (rd22 W) rfl h0
 obtain⟨z1,w1⟩:=arg_cell (κ:=λ_=>none) (D:=λ_=>False) (f:=λl:List zan=>AV.sl 6 (l.map zai)) (rd39 W) rfl h1
 obtain⟨z2,w2⟩:=arg_agg (κ:=λ_=>none) (D:=λ_=>False) (rd42 W) h2
 obtain⟨n3,rfl,rfl,rfl,w3⟩:=open_int Tryz.underlying3 (hval 3 3 v3 rfl rfl) h3
 clear hA0 hval0
 refine(walk _ _ _ z0 z1 z2 n3 W w0 w1 w2).mono λe W' ⟨he,bel⟩=>?_
 subst he
 exact⟨_,rfl,_,_,_,[],_,[],hW',trodAll_mk1 (shut_bool Tryz.underlying4 _),(trodAll_cons_mk (Below.trod laidOut (by kernel_rfl) (of_decide_eq_true (by kernel_rfl)) k0 bel lt0) (trodAll_cons_mk (Below.trod laidOut (by kernel_rfl) (of_decide_eq_true (by kernel_rfl)) k1 bel lt1) (trodAll_cons_mk (Below.trod laidOut (by kernel_rfl) (of_decide_eq_true (by kernel_rfl)) k2 bel lt2) (trodAll_cons_mk (shut_int Tryz.underlying3 w3) trodAll_mk0)))),rfl,bel.frame _,λh=>by cases h⟩
end Go.Proofs.YtlecnobdfhlmnaaGreat.appealExact
