/- ConsoleBack's tied card holds, whole, for every input: operations of the dice are read back from their text, line by line and as a whole. -/
import Derived.Test.YtdclabgakicjeaaDoorJ1
import Derived.Test.YtdclabgakicjeaaDoorRows
import Derived.Test.YtdclabgakicjeaaDoorCards
import Derived.Test.YtdclabgakicjeaaDoorTie
import Derived.WalkKit
import Derived.ProofKit
import Derived.OpenShut
import Derived.ChangeOld
import Derived.Below
import Derived.Lay
import Derived.Deep.DeepHandedRow
import Derived.Lib.LaidTab
set_option linter.unusedSimpArgs false
set_option linter.unusedVariables false
namespace Go.Proofs.YtdclabgakicjeaaDoor.consoleBack
open Go.ChangeShapes Go.WideShapes Go.ChangeAt Go.RowKit
open Go.Ab
theorem own:ownKnob Tryd.prog.godebug=none:=by kernel_rfl
theorem laidOut:laidOutB Tryd.prog=true:=by kernel_rfl
theorem rd3 (w:World):Rd Tryd.prog w 3 1 zai:=rd_int (by kernel_rfl) Tryd.underlying3
theorem rd22 (w:World):Rd Tryd.prog w 22 1 (fun l:List Int=>[AV.sl 1 (l.map zai)]):=rd_slice (by kernel_rfl) Tryd.underlying22 (by decide) (rd3 w)
theorem walk (v0:Value) (x0:List Int) (w:World) (hk:Dr.ok (fun g=>g < w.heap.size) w)
  (h0:VRel (Old w) (fun _=>none) (fun _=>False) w (.sl 1 (x0.map zai)) v0):Calls Tryd.prog 3 #[v0] w fun e w'=>e=.returned (.bool true)∧Below w.heap.size w w':=by
 refine zne (x:=.bool true) (ms:=[]) (law_Back x0 w) w _ rfl ?_ hk
 intro k a y ha hy
 match k,ha,hy with
 | 0,ha,hy=>injection ha with ha; injection hy with hy; subst ha; subst hy; exact h0
 | k+1,ha,hy=>simp at ha
theorem vars {W:World} (hL:laidMetH Tryd.prog Rows.consoleBackRow.laid W) (hS:W.ShapedOpen Tryd.prog):Dr.ok (fun g=>g < W.heap.size) W:=
 vars_of (dF:=Rows.laid_awardingbody_console_forms) rfl (by simp [Rows.consoleBackRow])
  (by
   have e:(Rows.laid_internal_strconv_uint64pow10:DataW Unit)=Lib.tabData .u64 Lib.pow10Tab:=rfl
   rw [← e]
   simp [Rows.consoleBackRow])
  (by kernel_rfl) hL hS (by kernel_rfl) Tryd.underlying192 (by kernel_rfl) (by kernel_rfl) (by kernel_rfl)
set_option maxRecDepth 100000 in
theorem contract (H:Type) (enc:TypeId×Value→H) (W:World) (base:Nat) (args:Array Value) (ds gs:List (DataW H)) (before:List MemPlace)
  (hval0:∀ (j:Nat) t v,Tryd.f3.params[j]?=some t→args[j]?=some v→Value.okWide Tryd.prog W .any base t v)
  (hW:DataW.Whole enc Tryd.prog Tryd.f3.params.toList Rows.consoleBackSpec.vars false W args.toList ds gs before) (hL:laidMetH Tryd.prog Rows.consoleBackRow.laid W) (hS:W.ShapedOpen Tryd.prog):Calls Tryd.prog 3 args W fun e W'=>∃ v,e=.returned v∧Rows.consoleBackSpec.post enc Tryd.prog Tryd.f3 false true false false W args v W':=by
 have hval:∀ (j:Nat) t v,Tryd.f3.params[j]?=some t→args[j]?=some v→Value.okWide Tryd.prog W .any base t v:=hval0
 have hW':=hW
 obtain ⟨p,q,hA0,hV,rfl,hfz,hnd⟩:=hW
 have hA:DataW.TrodAll enc Tryd.prog W 0 (fun _=>true) true Tryd.f3.params.toList args.toList ds p:=hA0
 rw [Tryd.params3] at hA hval
 obtain ⟨v0,vs0,d0,ds0,p0,q0,hargs,rfl,rfl,h0,r0⟩:=trodAll_cons hA
 obtain ⟨rfl,rfl,rfl⟩:=trodAll_nil r0
 obtain rfl:args=#[v0]:=by cases args; simp_all
 obtain ⟨rfl,rfl⟩:=trodVars_none hV
 obtain ⟨a0,len0,cap0,rfl⟩:=okWide_slice Tryd.underlying22 (hval 0 22 v0 rfl rfl)
 have k0:=h0
 have lt0:∀ x∈p0,x.block < W.heap.size:=by obtain ⟨m,hm⟩:=k0; exact DataW.trod_lt m _ _ _ hm
 obtain ⟨z0,w0⟩:=arg_cell (κ:=fun _=>none) (D:=fun _=>False) (f:=fun l:List Int=>AV.sl 1 (l.map zai)) (rd22 W) rfl h0
 clear hA0 hval0
 refine (walk _ z0 W (vars hL hS) w0).mono fun e W' ⟨he,bel⟩=>?_
 subst he
 exact ⟨_,rfl,_,_,_,[],_,[],hW',trodAll_mk1 (shut_bool Tryd.underlying4 _),(trodAll_cons_mk (Below.trod laidOut (by kernel_rfl) (of_decide_eq_true (by kernel_rfl)) k0 bel lt0) trodAll_mk0),rfl,bel.frame _,fun h=>by cases h⟩
set_option maxRecDepth 100000 in
theorem met (os:Os):laidMetH Tryd.prog Rows.consoleBackRow.laid ((World.laidAll Tryd.prog os Rows.consoleBackRow.laid).forCall (fun _ _=>0) ⟨#[],#[.slice none 0 0],[]⟩).memory:=by
 rw [MakeChecks.laidMetH_plain _ _ _ (by kernel_rfl)]
 exact laidMet_laidAll _ (by kernel_rfl) (by kernel_rfl)
theorem reads (os:Os) {H:Type} (enc:TypeId×Value→H):∃ places,DataW.whole enc Tryd.prog ((World.laidAll Tryd.prog os Rows.consoleBackRow.laid).forCall (fun _ _=>0) ⟨#[],#[.slice none 0 0],[]⟩).memory Tryd.f3.params.toList Rows.consoleBackSpec.vars false #[Value.slice none 0 0].toList 8=some ([.nil],[],places):=
 ⟨[],by kernel_rfl⟩
set_option maxRecDepth 100000 in
theorem lifted (os:Os) (started:os.Started) (H:Type) (enc:TypeId×Value→H) (F:Stop.Interp):ReturnsInHanded {} Tryd.checked os 3 .any ((OpenSpec.ofChange Rows.consoleBackSpec).preRow enc Tryd.prog Tryd.f3 Rows.consoleBackRow.domain false Rows.consoleBackRow.laid) (((OpenSpec.ofChange Rows.consoleBackSpec).at F).post enc Tryd.prog Tryd.f3 false true false false):=by
 obtain ⟨places,hx⟩:=reads os enc
 refine returnsInHanded_of_row (C:=Tryd.checked) (s:=OpenSpec.ofChange Rows.consoleBackSpec) own started (by kernel_rfl) Tryd.func3
  (witness_row_at (enc:=enc) (C:=Tryd.checked) false (World.laidAll Tryd.prog os Rows.consoleBackRow.laid) #[.slice none 0 0] (World.laidAll_os _ _ _) (by kernel_rfl) (by kernel_rfl) (by kernel_rfl)
   (OpenSpec.preRow_of_cond 8 hx (by kernel_rfl) (fun k hk=>by cases hk) (by kernel_rfl) (met os))) ?_
 intro W base args ds gs before hval hW _ _ _ hL hS _
 exact contract H enc W base args ds gs before hval hW hL hS
theorem said:Rows.ConsoleBackSaid:=
 OpenClaim.holds_of_cond 3 Tryd.f3 rfl rfl rfl rfl rfl rfl rfl ⟨rfl,rfl,rfl,rfl,rfl⟩ rfl rfl rfl rfl rfl (by kernel_rfl) Tryd.func3 (by kernel_rfl)
  (of_decide_eq_true (by kernel_rfl)) (by unfold Func.isWrapper; first | (rw [if_pos (by decide +kernel)]; kernel_rfl) | (rw [if_neg (by decide +kernel)]; exact ⟨rfl,rfl⟩))
  (fun os started H enc _ F=>by rw [OpenClaim.pre_eq_preRow]; exact lifted os started H enc F)
theorem plain (f:FuncId) (fn:Func) (hf:Tryd.pinned.checked.prog.funcNamed "awardingbody/awardingbodylaw45.ConsoleBack"=some f) (hfn:Tryd.pinned.checked.prog.funcs[f]?=some fn):false=Tryd.pinned.checked.prog.looks []∧∀ (j:Nat) t,fn.params[j]?=some t→Tryd.pinned.checked.prog.wantsStandIn t=false:=by
 obtain rfl:f=3:=Option.some.inj ((show Tryd.prog.funcNamed "awardingbody/awardingbodylaw45.ConsoleBack"=some 3 by kernel_rfl).symm.trans hf) |>.symm
 obtain rfl:fn=Tryd.f3:=(Option.some.inj (Tryd.func3.symm.trans hfn)).symm
 refine ⟨by kernel_rfl,fun j t ht=>?_⟩
 rw [Tryd.params3] at ht
 obtain rfl:t=22:=by simpa using Array.mem_of_getElem? ht
 exact (show Tryd.prog.wantsStandIn 22=false by kernel_rfl)
theorem proved:Rows.ConsoleBackCardSaid:=
 Claim7.holds_tied_plain_at .later [] _ _ _ _ said (fun _ h=>by cases h) (by kernel_rfl) (fun _ h=>by cases h) consoleBack_row_tie rfl ⟨rfl,rfl⟩ (by kernel_rfl) rfl plain (by kernel_rfl)
#print axioms proved
end Go.Proofs.YtdclabgakicjeaaDoor.consoleBack
