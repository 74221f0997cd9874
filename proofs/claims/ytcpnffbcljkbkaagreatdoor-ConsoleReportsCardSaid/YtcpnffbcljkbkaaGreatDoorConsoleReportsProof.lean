/- ConsoleReports' tied card holds, whole, for every input: a report has a line for each publication, outcome and entry of the log, and one more, and different outcomes have different lines. -/
import Derived.Test.YtcpnffbcljkbkaaGreatDoorJ0
import Derived.Test.YtcpnffbcljkbkaaGreatDoorJ3
import Derived.Test.YtcpnffbcljkbkaaGreatDoorRows
import Derived.Test.YtcpnffbcljkbkaaGreatDoorCards
import Derived.Test.YtcpnffbcljkbkaaGreatDoorTie
import Derived.WalkKit
import Derived.ProofKit
import Derived.OpenShut
import Derived.ChangeOld
import Derived.Below
import Derived.Lay
import Derived.Deep.DeepHandedRow
import Derived.Lib.LaidTab
set_option linter.unusedSimpArgs false
set_option linter.unusedVariables false
namespace Go.Proofs.YtcpnffbcljkbkaaGreatDoor.consoleReports
open Go.ChangeShapes Go.WideShapes Go.ChangeAt Go.RowKit
open Go.Ab
theorem own:ownKnob Tryz.prog.godebug=none:=by kernel_rfl
theorem laidOut:laidOutB Tryz.prog=true:=by kernel_rfl
theorem walk(v0 v1 v2:Value)(x0:List Int)(x1 x2:zbo)(w:World)(hk:Dr.ok (λg=>g<w.heap.size) w)(q1:OutW x1)(q2:OutW x2)
  (h0:VRel (Old w) (λ_=>none) (λ_=>False) w (.sl 1 (x0.map zaj)) v0) (h1:VRel (Old w) (λ_=>none) (λ_=>False) w (.agg (za8 x1)) v1)
  (h2:VRel (Old w) (λ_=>none) (λ_=>False) w (.agg (za8 x2)) v2):Calls Tryz.prog 3 #[v0,v1,v2] w λe w'=>e=.returned (.bool true)/\Below w.heap.size w w':=by
 refine zFR (x:=.bool true) (ms:=[]) (zLr x0 x1 x2 q1 q2) w _ rfl ?_ hk
 intro k a y ha hy
 match k,ha,hy with
 |0,ha,hy=>injection ha with ha;injection hy with hy;subst ha;subst hy;exact h0
 |1,ha,hy=>injection ha with ha;injection hy with hy;subst ha;subst hy;exact h1
 |2,ha,hy=>injection ha with ha;injection hy with hy;subst ha;subst hy;exact h2
 |k+3,ha,hy=>simp at ha
theorem vars{W:World}(hL:laidMetH Tryz.prog Rows.consoleReportsRow.laid W)(hS:W.ShapedOpen Tryz.prog):Dr.ok (λg=>g<W.heap.size) W:=
 vars_of (dF:=Rows.laid_awardingbody_console_forms) rfl (by simp[Rows.consoleReportsRow])
  (by
   have e:(Rows.laid_internal_strconv_uint64pow10:DataW Unit)=Lib.tabData .u64 Lib.pow10Tab:=rfl
   rw[<-e]
   simp[Rows.consoleReportsRow])
  (by kernel_rfl) hL hS (by kernel_rfl) Tryz.underlying349 (by kernel_rfl) (by kernel_rfl) (by kernel_rfl)
set_option maxRecDepth 100000 in
theorem contract(H:Type)(enc:TypeId×Value->H)(W:World)(base:Nat)(args:Array Value)(ds gs:List (DataW H))(before:List MemPlace)
  (hval0:∀(j:Nat) t v,Tryz.f3.params[j]?=some t->args[j]?=some v->Value.okWide Tryz.prog W .any base t v)
  (hW:DataW.Whole enc Tryz.prog Tryz.f3.params.toList Rows.consoleReportsSpec.vars false W args.toList ds gs before) (hL:laidMetH Tryz.prog Rows.consoleReportsRow.laid W) (hS:W.ShapedOpen Tryz.prog):Calls Tryz.prog 3 args W λe W'=>∃v,e=.returned v/\Rows.consoleReportsSpec.post enc Tryz.prog Tryz.f3 false true false false W args v W':=by
 have hval:∀(j:Nat) t v,Tryz.f3.params[j]?=some t->args[j]?=some v->Value.okWide Tryz.prog W .any base t v:=hval0
 have hW':=hW
 obtain⟨p,q,hA0,hV,rfl,hfz,hnd⟩:=hW
 have hA:DataW.TrodAll enc Tryz.prog W 0 (λ_=>true) true Tryz.f3.params.toList args.toList ds p:=hA0
 rw[Tryz.params3]at hA hval
 obtain⟨v0,vs0,d0,ds0,p0,q0,hargs,rfl,rfl,h0,r0⟩:=trodAll_cons hA
 obtain⟨v1,vs1,d1,ds1,p1,q1,rfl,rfl,rfl,h1,r1⟩:=trodAll_cons r0
 obtain⟨v2,vs2,d2,ds2,p2,q2,rfl,rfl,rfl,h2,r2⟩:=trodAll_cons r1
 obtain⟨rfl,rfl,rfl⟩:=trodAll_nil r2
 obtain rfl:args=#[v0,v1,v2]:=by cases args;simp_all
 obtain⟨rfl,rfl⟩:=trodVars_none hV
 obtain⟨a0,len0,cap0,rfl⟩:=okWide_slice Tryz.underlying22 (hval 0 22 v0 rfl rfl)
 obtain⟨c1,rfl,_⟩:=okWide_struct Tryz.underlying24 (hval 1 24 v1 rfl rfl)
 obtain⟨c2,rfl,_⟩:=okWide_struct Tryz.underlying24 (hval 2 24 v2 rfl rfl)
 have k0:=h0
 have lt0:∀x∈p0,x.block<W.heap.size:=by obtain⟨m,hm⟩:=k0;exact DataW.trod_lt m _ _ _ hm
 have k1:=h1
 have lt1:∀x∈p1,x.block<W.heap.size:=by obtain⟨m,hm⟩:=k1;exact DataW.trod_lt m _ _ _ hm
 have k2:=h2
 have lt2:∀x∈p2,x.block<W.heap.size:=by obtain⟨m,hm⟩:=k2;exact DataW.trod_lt m _ _ _ hm
 obtain⟨z0,w0⟩:=arg_cell (κ:=λ_=>none) (D:=λ_=>False) (f:=λl:List Int=>AV.sl 1 (l.map zaj)) (rd22 W) rfl h0
 obtain⟨z1,y1,_,w1⟩:=argq_agg (κ:=λ_=>none) (D:=λ_=>False) (rq24 W) h1
 obtain⟨z2,y2,_,w2⟩:=argq_agg (κ:=λ_=>none) (D:=λ_=>False) (rq24 W) h2
 clear hA0 hval0
 refine(walk _ _ _ z0 z1 z2 W (vars hL hS) (outW_of y1) (outW_of y2) w0 w1 w2).mono λe W' ⟨he,bel⟩=>?_
 subst he
 exact⟨_,rfl,_,_,_,[],_,[],hW',trodAll_mk1 (shut_bool Tryz.underlying4 _),(trodAll_cons_mk (Below.trod laidOut (by kernel_rfl) (of_decide_eq_true (by kernel_rfl)) k0 bel lt0) (trodAll_cons_mk (Below.trod laidOut (by kernel_rfl) (of_decide_eq_true (by kernel_rfl)) k1 bel lt1)
   (trodAll_cons_mk (Below.trod laidOut (by kernel_rfl) (of_decide_eq_true (by kernel_rfl)) k2 bel lt2) trodAll_mk0))),rfl,bel.frame _,λh=>by cases h⟩
abbrev zeros:Array Value:=#[.slice none 0 0,.agg #[.int .i64 0,.int .i64 0,.int .i64 0,.int .i64 0,.int .i64 0],.agg #[.int .i64 0,.int .i64 0,.int .i64 0,.int .i64 0,.int .i64 0]]
set_option maxRecDepth 100000 in
theorem met(os:Os):laidMetH Tryz.prog Rows.consoleReportsRow.laid ((World.laidAll Tryz.prog os Rows.consoleReportsRow.laid).forCall (λ_ _=>0) ⟨#[],zeros,[]⟩).memory:=by
 rw[MakeChecks.laidMetH_plain _ _ _ (by kernel_rfl)]
 exact laidMet_laidAll _ (by kernel_rfl) (by kernel_rfl)
def zi{H:Type}:DataW H:=.lit (.int .i64 0)
def zreads{H:Type}:List (DataW H):=[.nil,.agg [zi,zi,zi,zi,zi],.agg [zi,zi,zi,zi,zi]]
theorem reads(os:Os){H:Type}(enc:TypeId×Value->H):∃places,DataW.whole enc Tryz.prog ((World.laidAll Tryz.prog os Rows.consoleReportsRow.laid).forCall (λ_ _=>0) ⟨#[],zeros,[]⟩).memory Tryz.f3.params.toList Rows.consoleReportsSpec.vars false zeros.toList 8=some (zreads,[],places):=
 ⟨[],by kernel_rfl⟩
set_option maxRecDepth 100000 in
theorem lifted(os:Os)(started:os.Started)(H:Type)(enc:TypeId×Value->H)(F:Stop.Interp):ReturnsInHanded {} Tryz.checked os 3 .any ((OpenSpec.ofChange Rows.consoleReportsSpec).preRow enc Tryz.prog Tryz.f3 Rows.consoleReportsRow.domain false Rows.consoleReportsRow.laid) (((OpenSpec.ofChange Rows.consoleReportsSpec).at F).post enc Tryz.prog Tryz.f3 false true false false):=by
 obtain⟨places,hx⟩:=reads os enc
 refine returnsInHanded_of_row (C:=Tryz.checked) (s:=OpenSpec.ofChange Rows.consoleReportsSpec) own started (by kernel_rfl) Tryz.func3
  (witness_row_at (enc:=enc) (C:=Tryz.checked) false (World.laidAll Tryz.prog os Rows.consoleReportsRow.laid) zeros (World.laidAll_os _ _ _) (by kernel_rfl) (by kernel_rfl) (by kernel_rfl)
   (OpenSpec.preRow_of_cond 8 hx (by kernel_rfl) (λk hk=>by cases hk) (by kernel_rfl) (met os))) ?_
 intro W base args ds gs before hval hW _ _ _ hL hS _
 exact contract H enc W base args ds gs before hval hW hL hS
theorem said:Rows.ConsoleReportsSaid:=
 OpenClaim.holds_of_cond 3 Tryz.f3 rfl rfl rfl rfl rfl rfl rfl ⟨rfl,rfl,rfl,rfl,rfl⟩ rfl rfl rfl rfl rfl (by kernel_rfl) Tryz.func3 (by kernel_rfl)
  (of_decide_eq_true (by kernel_rfl)) (by unfold Func.isWrapper;first|(rw[if_pos (by decide +kernel)];kernel_rfl)|(rw[if_neg (by decide +kernel)];exact⟨rfl,rfl⟩))
  (λos started H enc _ F=>by rw[OpenClaim.pre_eq_preRow];exact lifted os started H enc F)
theorem plain(f:FuncId)(fn:Func)(hf:Tryz.pinned.checked.prog.funcNamed "awardingbody/awardingbodylaw45.ConsoleReports"=some f)(hfn:Tryz.pinned.checked.prog.funcs[f]?=some fn):false=Tryz.pinned.checked.prog.looks []/\∀(j:Nat) t,fn.params[j]?=some t->Tryz.pinned.checked.prog.wantsStandIn t=false:=by
 obtain rfl:f=3:=Option.some.inj ((show Tryz.prog.funcNamed "awardingbody/awardingbodylaw45.ConsoleReports"=some 3 by kernel_rfl).symm.trans hf)|>.symm
 obtain rfl:fn=Tryz.f3:=(Option.some.inj (Tryz.func3.symm.trans hfn)).symm
 refine⟨by kernel_rfl,λj t ht=>?_⟩
 rw[Tryz.params3]at ht
 have hm:t∈#[22,24,24]:=Array.mem_of_getElem? ht
 simp only[List.mem_toArray,List.mem_cons,List.not_mem_nil,or_false]at hm
 rcases hm with rfl|rfl|rfl
 ·exact(show Tryz.prog.wantsStandIn 22=false by kernel_rfl)
 ·exact(show Tryz.prog.wantsStandIn 24=false by kernel_rfl)
 ·exact(show Tryz.prog.wantsStandIn 24=false by kernel_rfl)
theorem proved:Rows.ConsoleReportsCardSaid:=
 Claim7.holds_tied_plain_at .later [] _ _ _ _ said (λ_ h=>by cases h) (by kernel_rfl) (λ_ h=>by cases h) consoleReports_row_tie rfl ⟨rfl,rfl⟩ (by kernel_rfl) rfl plain (by kernel_rfl)
#print axioms proved
end Go.Proofs.YtcpnffbcljkbkaaGreatDoor.consoleReports
