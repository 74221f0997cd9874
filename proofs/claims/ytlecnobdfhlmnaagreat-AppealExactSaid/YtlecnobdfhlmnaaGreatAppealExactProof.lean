import Derived.Test.YtlecnobdfhlmnaaGreatAppealExactLift
namespace Go.Proofs.YtlecnobdfhlmnaaGreat.appealExact
open Go.ChangeShapes Go.WideShapes Go.ChangeAt Go.RowKit
open Go.ChangeMaps (open_string shut_string)
open Go.Ab
set_option maxHeartbeats 4000000 in
theorem facts:joinedFacts Tryz.pinned.checked.prog 6 Tryz.f6 Rows.appealExactSpec Rows.appealExactRow=true:=by
 unfold joinedFacts
 simp only[Bool.and_eq_true]
 repeat' apply And.intro
 all_goals as_aux_lemma=>kernel_rfl
theorem over:Rows.appealExactRow.holds Tryz.pinned (OpenSpec.ofChange Rows.appealExactSpec):=
 OpenClaim.holds_of_wide 6 Tryz.f6 rfl rfl rfl rfl rfl rfl rfl ⟨rfl,rfl,rfl,rfl,rfl⟩ rfl rfl rfl rfl rfl (by kernel_rfl) Tryz.func6 facts
  (of_decide_eq_true (by kernel_rfl)) (by unfold Func.isWrapper;first|(rw[if_pos (by decide +kernel)];kernel_rfl)|(rw[if_neg (by decide +kernel)];exact⟨rfl,rfl⟩))
  (λos started H enc _=>lifted os started H enc)
theorem proved:Rows.AppealExactSaid:=over
#print axioms proved
end Go.Proofs.YtlecnobdfhlmnaaGreat.appealExact
