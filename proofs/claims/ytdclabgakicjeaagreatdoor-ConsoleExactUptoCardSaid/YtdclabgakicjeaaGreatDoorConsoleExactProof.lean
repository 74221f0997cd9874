/- ConsoleExact's tied card holds in its second form: wherever the arguments are together of bulk at most 1048576, the console and its reference answer alike. -/
import Derived.Test.YtdclabgakicjeaaGreatDoorJ1
import Derived.Test.YtdclabgakicjeaaGreatDoorRows
import Derived.Test.YtdclabgakicjeaaGreatDoorCards
import Derived.Test.YtdclabgakicjeaaGreatDoorTie
import Derived.WalkKit
import Derived.ProofKit
import Derived.OpenShut
import Derived.ShutString
import Derived.ChangeOld
import Derived.Below
import Derived.Lay
import Derived.Deep.DeepHandedRow
import Derived.Lib.LaidTab
set_option linter.unusedSimpArgs false
set_option linter.unusedVariables false
namespace Go.Proofs.YtdclabgakicjeaaGreatDoor.consoleExact
open Go.ChangeShapes Go.WideShapes Go.ChangeAt Go.RowKit
open Go.ChangeMaps (open_string shut_string)
open Go.Ab
theorem own:ownKnob Tryz.prog.godebug=none:=by kernel_rfl
theorem laidOut:laidOutB Tryz.prog=true:=by kernel_rfl
theorem walk (v0 v1 v3 v4:Value) (x0:List Int) (x1:GOp) (x2:ByteArray) (x3:zaG) (x4:zaL) (w:World) (hk:Dr.ok (fun g=>g < w.heap.size) w) (q1:OpN x1) (q3:OutW x3) (q4:RepW x4)
  (h0:VRel (Old w) (fun _=>none) (fun _=>False) w (.sl 1 (x0.map zad)) v0) (h1:VRel (Old w) (fun _=>none) (fun _=>False) w (.agg (nGOp x1)) v1)
  (h3:VRel (Old w) (fun _=>none) (fun _=>False) w (.agg (zaF x3)) v3) (h4:VRel (Old w) (fun _=>none) (fun _=>False) w (.agg (zaC x4)) v4):Calls Tryz.prog 3 #[v0,v1,.string x2,v3,v4] w fun e w'=>e=.returned (.bool true)∧Below w.heap.size w w':=by
 refine zrt (x:=.bool true) (ms:=[]) (law_Exact q3 q4 x0 x1 x2.data.toList q1) w _ rfl ?_ hk
 intro k a y ha hy
 match k,ha,hy with
 | 0,ha,hy=>injection ha with ha; injection hy with hy; subst ha; subst hy; exact h0
 | 1,ha,hy=>injection ha with ha; injection hy with hy; subst ha; subst hy; exact h1
 | 2,ha,hy=>injection ha with ha; injection hy with hy; subst ha; subst hy; exact .c (.v _)
 | 3,ha,hy=>injection ha with ha; injection hy with hy; subst ha; subst hy; exact h3
 | 4,ha,hy=>injection ha with ha; injection hy with hy; subst ha; subst hy; exact h4
 | k+5,ha,hy=>simp at ha
theorem vars {W:World} (hL:laidMetH Tryz.prog Rows.consoleExactUptoRow.laid W) (hS:W.ShapedOpen Tryz.prog):Dr.ok (fun g=>g < W.heap.size) W:=
 vars_of (dF:=Rows.laid_awardingbody_console_forms) rfl (by simp [Rows.consoleExactUptoRow])
  (by
   have e:(Rows.laid_internal_strconv_uint64pow10:DataW Unit)=Lib.tabData .u64 Lib.pow10Tab:=rfl
   rw [← e]
   simp [Rows.consoleExactUptoRow])
  (by kernel_rfl) hL hS (by kernel_rfl) Tryz.underlying217 (by kernel_rfl) (by kernel_rfl) (by kernel_rfl)
set_option maxRecDepth 100000 in
theorem contract (H:Type) (enc:TypeId×Value→H) (W:World) (base:Nat) (args:Array Value) (ds gs:List (DataW H)) (before:List MemPlace)
  (hval0:∀ (j:Nat) t v,Tryz.f3.params[j]?=some t→args[j]?=some v→Value.okWide Tryz.prog W .any base t v)
  (hW:DataW.Whole enc Tryz.prog Tryz.f3.params.toList Rows.consoleExactSpec.vars false W args.toList ds gs before) (hb:Rows.uptoSmall H (ds++gs)=true) (hL:laidMetH Tryz.prog Rows.consoleExactUptoRow.laid W) (hS:W.ShapedOpen Tryz.prog):Calls Tryz.prog 3 args W fun e W'=>∃ v,e=.returned v∧Rows.consoleExactSpec.post enc Tryz.prog Tryz.f3 false true false false W args v W':=by
 have hval:∀ (j:Nat) t v,Tryz.f3.params[j]?=some t→args[j]?=some v→Value.okWide Tryz.prog W .any base t v:=hval0
 have hW':=hW
 obtain ⟨p,q,hA0,hV,rfl,hfz,hnd⟩:=hW
 have hA:DataW.TrodAll enc Tryz.prog W 0 (fun _=>true) true Tryz.f3.params.toList args.toList ds p:=hA0
 rw [Tryz.params3] at hA hval
 obtain ⟨v0,vs0,d0,ds0,p0,q0,hargs,rfl,rfl,h0,r0⟩:=trodAll_cons hA
 obtain ⟨v1,vs1,d1,ds1,p1,q1,rfl,rfl,rfl,h1,r1⟩:=trodAll_cons r0
 obtain ⟨v2,vs2,d2,ds2,p2,q2,rfl,rfl,rfl,h2,r2⟩:=trodAll_cons r1
 obtain ⟨v3,vs3,d3,ds3,p3,q3,rfl,rfl,rfl,h3,r3⟩:=trodAll_cons r2
 obtain ⟨v4,vs4,d4,ds4,p4,q4,rfl,rfl,rfl,h4,r4⟩:=trodAll_cons r3
 obtain ⟨rfl,rfl,rfl⟩:=trodAll_nil r4
 obtain rfl:args=#[v0,v1,v2,v3,v4]:=by cases args; simp_all
 obtain ⟨rfl,rfl⟩:=trodVars_none hV
 have hbk:Rows.uptoBulkAll ([d0,d1,d2,d3,d4]++[])≤1048576:=of_decide_eq_true hb
 obtain ⟨a0,len0,cap0,rfl⟩:=okWide_slice Tryz.underlying22 (hval 0 22 v0 rfl rfl)
 obtain ⟨c1,rfl,_⟩:=okWide_struct Tryz.underlying36 (hval 1 36 v1 rfl rfl)
 obtain ⟨s2,rfl,rfl,rfl,w2⟩:=open_string Tryz.underlying9 (hval 2 9 v2 rfl rfl) h2
 obtain ⟨c3,rfl,_⟩:=okWide_struct Tryz.underlying38 (hval 3 38 v3 rfl rfl)
 obtain ⟨c4,rfl,_⟩:=okWide_struct Tryz.underlying44 (hval 4 44 v4 rfl rfl)
 have k0:=h0
 have lt0:∀ x∈p0,x.block < W.heap.size:=by obtain ⟨m,hm⟩:=k0; exact DataW.trod_lt m _ _ _ hm
 have k1:=h1
 have lt1:∀ x∈p1,x.block < W.heap.size:=by obtain ⟨m,hm⟩:=k1; exact DataW.trod_lt m _ _ _ hm
 have k3:=h3
 have lt3:∀ x∈p3,x.block < W.heap.size:=by obtain ⟨m,hm⟩:=k3; exact DataW.trod_lt m _ _ _ hm
 have k4:=h4
 have lt4:∀ x∈p4,x.block < W.heap.size:=by obtain ⟨m,hm⟩:=k4; exact DataW.trod_lt m _ _ _ hm
 obtain ⟨z0,w0⟩:=arg_cell (κ:=fun _=>none) (D:=fun _=>False) (f:=fun l:List Int=>AV.sl 1 (l.map zad)) (rd22 W) rfl h0
 obtain ⟨z1,y1,_,w1⟩:=zpE (κ:=fun _=>none) (D:=fun _=>False) (rq36 W) h1
 obtain ⟨z3,y3,_,w3⟩:=zpE (κ:=fun _=>none) (D:=fun _=>False) (rq38 W) h3
 obtain ⟨z4,y4,b4,w4⟩:=zpE (κ:=fun _=>none) (D:=fun _=>False) (rq44 W) h4
 have hs4:S44 z4≤1048576:=by
  simp only [List.append_nil,Rows.uptoBulkAll] at hbk
  have:S44 z4≤Rows.uptoBulk d4:=b4
  omega
 clear hA0 hval0
 refine (walk _ _ _ _ z0 z1 s2 z3 z4 W (vars hL hS) (opN_of y1) (outW_of y3) (repW_of y4 hs4) w0 w1 w3 w4).mono fun e W' ⟨he,bel⟩=>?_
 subst he
 exact ⟨_,rfl,_,_,_,[],_,[],hW',trodAll_mk1 (shut_bool Tryz.underlying4 _),(trodAll_cons_mk (Below.trod laidOut (by kernel_rfl) (of_decide_eq_true (by kernel_rfl)) k0 bel lt0) (trodAll_cons_mk (Below.trod laidOut (by kernel_rfl) (of_decide_eq_true (by kernel_rfl)) k1 bel lt1) (trodAll_cons_mk (shut_string Tryz.underlying9 w2)
   (trodAll_cons_mk (Below.trod laidOut (by kernel_rfl) (of_decide_eq_true (by kernel_rfl)) k3 bel lt3) (trodAll_cons_mk (Below.trod laidOut (by kernel_rfl) (of_decide_eq_true (by kernel_rfl)) k4 bel lt4) trodAll_mk0))))),rfl,bel.frame _,fun h=>by cases h⟩
abbrev zeros:Array Value:=#[.slice none 0 0,.agg #[.int .i64 0,.int .i64 0,.int .i64 0,.int .i64 0,.int .i64 0,.int .i64 0,.int .i64 0,.int .i64 0,.int .i64 0,.slice none 0 0,.slice none 0 0,.int .i64 0,.int .i64 0,.int .i64 0,.int .i64 0,.int .i64 0,.int .i64 0,.int .i64 0,.int .i64 0,.slice none 0 0,.int .i64 0,.int .i64 0,.int .i64 0,.int .i64 0,.int .i64 0,.int .i64 0,.int .i64 0,.int .i64 0,.slice none 0 0,.int .i64 0,.int .i64 0],.string .empty,.agg #[.int .i64 0,.int .i64 0,.int .i64 0,.int .i64 0,.int .i64 0],.agg #[.slice none 0 0,.slice none 0 0,.slice none 0 0,.slice none 0 0]]
set_option maxRecDepth 100000 in
theorem met (os:Os):laidMetH Tryz.prog Rows.consoleExactUptoRow.laid ((World.laidAll Tryz.prog os Rows.consoleExactUptoRow.laid).forCall (fun _ _=>0) ⟨#[],zeros,[]⟩).memory:=by
 rw [MakeChecks.laidMetH_plain _ _ _ (by kernel_rfl)]
 exact laidMet_laidAll _ (by kernel_rfl) (by kernel_rfl)
def zi {H:Type}:DataW H:=.lit (.int .i64 0)
def zreads {H:Type}:List (DataW H):=[.nil,.agg [zi,.agg [zi,zi,zi],.agg [zi,zi,zi,zi,zi,.nil,.nil],.agg [.agg [zi,zi,zi],zi,zi,zi,zi,zi,.nil],.agg [zi,zi],.agg [.agg [zi,zi,zi],zi,zi,zi],.nil,zi,zi],.lit (.string []),.agg [zi,zi,zi,zi,zi],.agg [.nil,.nil,.nil,.nil]]
theorem reads (os:Os) {H:Type} (enc:TypeId×Value→H):∃ places,DataW.whole enc Tryz.prog ((World.laidAll Tryz.prog os Rows.consoleExactUptoRow.laid).forCall (fun _ _=>0) ⟨#[],zeros,[]⟩).memory Tryz.f3.params.toList Rows.consoleExactSpec.vars false zeros.toList 8=some (zreads,[],places):=
 ⟨[],by kernel_rfl⟩
set_option maxRecDepth 100000 in
theorem lifted (os:Os) (started:os.Started) (H:Type) (enc:TypeId×Value→H) (F:Stop.Interp):ReturnsInHanded {} Tryz.checked os 3 .any ((Rows.OpenSpec.upto Rows.consoleExactSpec).preRow enc Tryz.prog Tryz.f3 Rows.consoleExactUptoRow.domain false Rows.consoleExactUptoRow.laid) (((Rows.OpenSpec.upto Rows.consoleExactSpec).at F).post enc Tryz.prog Tryz.f3 false true false false):=by
 obtain ⟨places,hx⟩:=reads os enc
 refine returnsInHanded_of_row (C:=Tryz.checked) (s:=Rows.OpenSpec.upto Rows.consoleExactSpec) own started (by kernel_rfl) Tryz.func3
  (witness_row_at (enc:=enc) (C:=Tryz.checked) false (World.laidAll Tryz.prog os Rows.consoleExactUptoRow.laid) zeros (World.laidAll_os _ _ _) (by kernel_rfl) (by kernel_rfl) (by kernel_rfl)
   (OpenSpec.preRow_of_cond 8 hx (by kernel_rfl) (fun k hk=>by cases hk; kernel_rfl) (by kernel_rfl) (met os))) ?_
 intro W base args ds gs before hval hW _ hcond _ hL hS _
 exact contract H enc W base args ds gs before hval hW (hcond _ rfl) hL hS
theorem said:Rows.ConsoleExactUptoSaid:=
 OpenClaim.holds_of_cond 3 Tryz.f3 rfl rfl rfl rfl rfl rfl rfl ⟨rfl,rfl,rfl,rfl,rfl⟩ rfl rfl rfl rfl rfl (by kernel_rfl) Tryz.func3 (by kernel_rfl)
  (of_decide_eq_true (by kernel_rfl)) (by unfold Func.isWrapper; first | (rw [if_pos (by decide +kernel)]; kernel_rfl) | (rw [if_neg (by decide +kernel)]; exact ⟨rfl,rfl⟩))
  (fun os started H enc _ F=>by rw [OpenClaim.pre_eq_preRow]; exact lifted os started H enc F)
theorem plain (f:FuncId) (fn:Func) (hf:Tryz.pinned.checked.prog.funcNamed "awardingbody/awardingbodylaw45.ConsoleExact"=some f) (hfn:Tryz.pinned.checked.prog.funcs[f]?=some fn):false=Tryz.pinned.checked.prog.looks []∧∀ (j:Nat) t,fn.params[j]?=some t→Tryz.pinned.checked.prog.wantsStandIn t=false:=by
 obtain rfl:f=3:=Option.some.inj ((show Tryz.prog.funcNamed "awardingbody/awardingbodylaw45.ConsoleExact"=some 3 by kernel_rfl).symm.trans hf) |>.symm
 obtain rfl:fn=Tryz.f3:=(Option.some.inj (Tryz.func3.symm.trans hfn)).symm
 refine ⟨by kernel_rfl,fun j t ht=>?_⟩
 rw [Tryz.params3] at ht
 have hm:t∈#[22,36,9,38,44]:=Array.mem_of_getElem? ht
 simp only [List.mem_toArray,List.mem_cons,List.not_mem_nil,or_false] at hm
 rcases hm with rfl | rfl | rfl | rfl | rfl
 · exact (show Tryz.prog.wantsStandIn 22=false by kernel_rfl)
 · exact (show Tryz.prog.wantsStandIn 36=false by kernel_rfl)
 · exact (show Tryz.prog.wantsStandIn 9=false by kernel_rfl)
 · exact (show Tryz.prog.wantsStandIn 38=false by kernel_rfl)
 · exact (show Tryz.prog.wantsStandIn 44=false by kernel_rfl)
theorem proved:Rows.ConsoleExactUptoCardSaid:=
 Claim7.holds_tied_plain_at .later [] _ _ _ _ said (fun _ h=>by cases h) (by kernel_rfl) (fun _ h=>by cases h) consoleExactUpto_row_tie rfl ⟨rfl,rfl⟩ (by kernel_rfl) rfl plain (by kernel_rfl)
#print axioms proved
end Go.Proofs.YtdclabgakicjeaaGreatDoor.consoleExact
