/-
  No cell of these rows narrows 'for every input' (looked for: loops, veiled, ifaces, maps, wideKeys, modest, calm, conditions, laid).
  DERIVED. THE GIVEN ROWS OF THIS SEAT. 6 by the template 'for every input the law returns true; each argument reads behind the call as it read before'; 0 by the template 'total and deterministic' (their statements: YtikogkgdkdmljaaGreatTotals.lean).
  GIVEN WITH THE SEED: the statements are not yours to turn. If you find one false, say at which input.
  Laid BY PROGRAM, IN A SANDBOX (cutbox-rows.mjs): the forced cells as the released guide's own fill.sh prints them over the translation cf44e9f68764eca5… (all of the seat's roots in one cut). By AI agents, Wed Nov 11 2026. No macro, syntax, notation, axiom, sorry.
-/
import Derived.Test.YtikogkgdkdmljaaGreatChecked
import GoSem.Claim
import GoSem.ClaimJoined
import GoSem.ClaimMapViews
import Derived.JoinedTies
import Derived.KernelRfl
namespace Go.Proofs.YtikogkgdkdmljaaGreat
/- THE CELL 'sum', in the pinned program and in every row, IS THE sha256 OF THE DUMP (.gsa) THAT YtikogkgdkdmljaaGreatProg.lean LOADS. Nothing in Lean hashes anything: it is a label: what it is worth is what the hold of that sum in a sandbox is worth. -/
noncomputable def Tryz.pinned : Pinned := { name := "ytikogkgdkdmljaagreat", sum := "cf44e9f68764eca5338c2ea1030c40e9333f1ab5fca9b48dfc8a05c2e8b473fd", checked := Tryz.checked }
namespace Rows
def none {H : Type} : Left H := { results := [], args := [] }

/-- 'awardingbodylaw29.MarkingOrder': WHATEVER THE INPUT: true; the input reads as it did. -/
def markingOrderSpec : ChangeSpec := { name := "markingOrder", fn := fun _ => fun
  | [d] => { results := [.lit (.bool true)], args := [d] }
  | _ => none }
def markingOrderRow : OpenClaim := { program := "ytikogkgdkdmljaagreat", sum := "cf44e9f68764eca5338c2ea1030c40e9333f1ab5fca9b48dfc8a05c2e8b473fd", func := "awardingbody/awardingbodylaw29.MarkingOrder", spec := "markingOrder", unfollowed := true, recurses := true, plainKeys := false, apart := false }
def MarkingOrderSaid : Prop := markingOrderRow.holds Tryz.pinned (OpenSpec.ofChange markingOrderSpec)

/-- ITS FALSE NEIGHBOUR: 'it returns false'. Refute it at one input. -/
def markingOrderWrong : ChangeSpec := { name := "markingOrder", fn := fun _ => fun
  | [d] => { results := [.lit (.bool false)], args := [d] }
  | _ => none }
def MarkingOrderWrongFalsely : Prop := markingOrderRow.holds Tryz.pinned (OpenSpec.ofChange markingOrderWrong)

/-- 'awardingbodylaw29.MarkingFair': WHATEVER THE INPUT: true; the input reads as it did. -/
def markingFairSpec : ChangeSpec := { name := "markingFair", fn := fun _ => fun
  | [d] => { results := [.lit (.bool true)], args := [d] }
  | _ => none }
def markingFairRow : OpenClaim := { program := "ytikogkgdkdmljaagreat", sum := "cf44e9f68764eca5338c2ea1030c40e9333f1ab5fca9b48dfc8a05c2e8b473fd", func := "awardingbody/awardingbodylaw29.MarkingFair", spec := "markingFair", unfollowed := true, recurses := true, plainKeys := false, apart := false }
def MarkingFairSaid : Prop := markingFairRow.holds Tryz.pinned (OpenSpec.ofChange markingFairSpec)

/-- ITS FALSE NEIGHBOUR: 'it returns false'. Refute it at one input. -/
def markingFairWrong : ChangeSpec := { name := "markingFair", fn := fun _ => fun
  | [d] => { results := [.lit (.bool false)], args := [d] }
  | _ => none }
def MarkingFairWrongFalsely : Prop := markingFairRow.holds Tryz.pinned (OpenSpec.ofChange markingFairWrong)

/-- 'awardingbodylaw29.MarkingApart': WHATEVER THE INPUT: true; the input reads as it did. -/
def markingApartSpec : ChangeSpec := { name := "markingApart", fn := fun _ => fun
  | [d] => { results := [.lit (.bool true)], args := [d] }
  | _ => none }
def markingApartRow : OpenClaim := { program := "ytikogkgdkdmljaagreat", sum := "cf44e9f68764eca5338c2ea1030c40e9333f1ab5fca9b48dfc8a05c2e8b473fd", func := "awardingbody/awardingbodylaw29.MarkingApart", spec := "markingApart", unfollowed := true, recurses := true, plainKeys := false, apart := false }
def MarkingApartSaid : Prop := markingApartRow.holds Tryz.pinned (OpenSpec.ofChange markingApartSpec)

/-- ITS FALSE NEIGHBOUR: 'it returns false'. Refute it at one input. -/
def markingApartWrong : ChangeSpec := { name := "markingApart", fn := fun _ => fun
  | [d] => { results := [.lit (.bool false)], args := [d] }
  | _ => none }
def MarkingApartWrongFalsely : Prop := markingApartRow.holds Tryz.pinned (OpenSpec.ofChange markingApartWrong)

/-- 'awardingbodylaw29.MarkingSeeds': WHATEVER THE INPUT: true; the input reads as it did. -/
def markingSeedsSpec : ChangeSpec := { name := "markingSeeds", fn := fun _ => fun
  | [d] => { results := [.lit (.bool true)], args := [d] }
  | _ => none }
def markingSeedsRow : OpenClaim := { program := "ytikogkgdkdmljaagreat", sum := "cf44e9f68764eca5338c2ea1030c40e9333f1ab5fca9b48dfc8a05c2e8b473fd", func := "awardingbody/awardingbodylaw29.MarkingSeeds", spec := "markingSeeds", unfollowed := true, recurses := true, plainKeys := false, apart := false }
def MarkingSeedsSaid : Prop := markingSeedsRow.holds Tryz.pinned (OpenSpec.ofChange markingSeedsSpec)

/-- ITS FALSE NEIGHBOUR: 'it returns false'. Refute it at one input. -/
def markingSeedsWrong : ChangeSpec := { name := "markingSeeds", fn := fun _ => fun
  | [d] => { results := [.lit (.bool false)], args := [d] }
  | _ => none }
def MarkingSeedsWrongFalsely : Prop := markingSeedsRow.holds Tryz.pinned (OpenSpec.ofChange markingSeedsWrong)

/-- 'awardingbodylaw29.MarkingReopens': WHATEVER THE INPUT: true; the input reads as it did. -/
def markingReopensSpec : ChangeSpec := { name := "markingReopens", fn := fun _ => fun
  | [d1, d2] => { results := [.lit (.bool true)], args := [d1, d2] }
  | _ => none }
def markingReopensRow : OpenClaim := { program := "ytikogkgdkdmljaagreat", sum := "cf44e9f68764eca5338c2ea1030c40e9333f1ab5fca9b48dfc8a05c2e8b473fd", func := "awardingbody/awardingbodylaw29.MarkingReopens", spec := "markingReopens", unfollowed := true, recurses := true, plainKeys := false, apart := false }
def MarkingReopensSaid : Prop := markingReopensRow.holds Tryz.pinned (OpenSpec.ofChange markingReopensSpec)

/-- ITS FALSE NEIGHBOUR: 'it returns false'. Refute it at one input. -/
def markingReopensWrong : ChangeSpec := { name := "markingReopens", fn := fun _ => fun
  | [d1, d2] => { results := [.lit (.bool false)], args := [d1, d2] }
  | _ => none }
def MarkingReopensWrongFalsely : Prop := markingReopensRow.holds Tryz.pinned (OpenSpec.ofChange markingReopensWrong)

/-- 'awardingbodylaw29.MarkingReinstates': WHATEVER THE INPUT: true; the input reads as it did. -/
def markingReinstatesSpec : ChangeSpec := { name := "markingReinstates", fn := fun _ => fun
  | [d1, d2] => { results := [.lit (.bool true)], args := [d1, d2] }
  | _ => none }
def markingReinstatesRow : OpenClaim := { program := "ytikogkgdkdmljaagreat", sum := "cf44e9f68764eca5338c2ea1030c40e9333f1ab5fca9b48dfc8a05c2e8b473fd", func := "awardingbody/awardingbodylaw29.MarkingReinstates", spec := "markingReinstates", unfollowed := true, recurses := true, plainKeys := false, apart := false }
def MarkingReinstatesSaid : Prop := markingReinstatesRow.holds Tryz.pinned (OpenSpec.ofChange markingReinstatesSpec)

/-- ITS FALSE NEIGHBOUR: 'it returns false'. Refute it at one input. -/
def markingReinstatesWrong : ChangeSpec := { name := "markingReinstates", fn := fun _ => fun
  | [d1, d2] => { results := [.lit (.bool false)], args := [d1, d2] }
  | _ => none }
def MarkingReinstatesWrongFalsely : Prop := markingReinstatesRow.holds Tryz.pinned (OpenSpec.ofChange markingReinstatesWrong)

/- THE SECOND FORM. 'bulk': how many values and letters a reading holds, each counted each time it is reached (what is shared counts as often as it is met; a slice's spare places count too). A statement '..UptoSaid' is the law's where the arguments, and the package variables that the reading takes, are together of bulk at most 1048576: NARROWER than '..Said'. Prove '..Said' where nothing that the law and all that it calls make is longer than what came in: it says more and counts as full. Else prove '..UptoSaid'. A law counts once. -/
mutual
def uptoBulk {H : Type} : DataW H → Nat
  | .lit (.string bytes) => bytes.length + 1
  | .lit _ => 1
  | .nil => 1
  | .ptr d => uptoBulk d + 1
  | .slice elems spare => uptoBulkAll elems + uptoBulkAll spare + 1
  | .agg parts => uptoBulkAll parts + 1
  | .iface _ d => uptoBulk d + 1
  | .map entries => uptoBulkEntries entries + 1
  | .held _ => 1
def uptoBulkAll {H : Type} : List (DataW H) → Nat
  | [] => 0
  | d :: r => uptoBulk d + uptoBulkAll r
def uptoBulkEntries {H : Type} : List (Lit × DataW H) → Nat
  | [] => 0
  | x :: r => uptoBulkEntry x + uptoBulkEntries r
def uptoBulkEntry {H : Type} : Lit × DataW H → Nat
  | (.string bytes, d) => bytes.length + uptoBulk d + 1
  | (_, d) => uptoBulk d + 1
 end
def uptoSmall : (H : Type) → List (DataW H) → Bool := fun _ ds => decide (uptoBulkAll ds ≤ 1048576)
def OpenSpec.upto (s : _root_.Go.ChangeSpec) : _root_.Go.OpenSpec := { _root_.Go.OpenSpec.ofChange s with cond := some uptoSmall }

/-- 'awardingbodylaw29.MarkingOrder', WHERE WHAT IT READS IS OF BULK AT MOST 1048576: true; the input reads as it did. -/
def markingOrderUptoRow : OpenClaim := { program := "ytikogkgdkdmljaagreat", sum := "cf44e9f68764eca5338c2ea1030c40e9333f1ab5fca9b48dfc8a05c2e8b473fd", func := "awardingbody/awardingbodylaw29.MarkingOrder", spec := "markingOrder", unfollowed := true, recurses := true, plainKeys := false, apart := false, narrowed := true }
def MarkingOrderUptoSaid : Prop := markingOrderUptoRow.holds Tryz.pinned (OpenSpec.upto markingOrderSpec)

/-- 'awardingbodylaw29.MarkingFair', WHERE WHAT IT READS IS OF BULK AT MOST 1048576: true; the input reads as it did. -/
def markingFairUptoRow : OpenClaim := { program := "ytikogkgdkdmljaagreat", sum := "cf44e9f68764eca5338c2ea1030c40e9333f1ab5fca9b48dfc8a05c2e8b473fd", func := "awardingbody/awardingbodylaw29.MarkingFair", spec := "markingFair", unfollowed := true, recurses := true, plainKeys := false, apart := false, narrowed := true }
def MarkingFairUptoSaid : Prop := markingFairUptoRow.holds Tryz.pinned (OpenSpec.upto markingFairSpec)

/-- 'awardingbodylaw29.MarkingApart', WHERE WHAT IT READS IS OF BULK AT MOST 1048576: true; the input reads as it did. -/
def markingApartUptoRow : OpenClaim := { program := "ytikogkgdkdmljaagreat", sum := "cf44e9f68764eca5338c2ea1030c40e9333f1ab5fca9b48dfc8a05c2e8b473fd", func := "awardingbody/awardingbodylaw29.MarkingApart", spec := "markingApart", unfollowed := true, recurses := true, plainKeys := false, apart := false, narrowed := true }
def MarkingApartUptoSaid : Prop := markingApartUptoRow.holds Tryz.pinned (OpenSpec.upto markingApartSpec)

/-- 'awardingbodylaw29.MarkingSeeds', WHERE WHAT IT READS IS OF BULK AT MOST 1048576: true; the input reads as it did. -/
def markingSeedsUptoRow : OpenClaim := { program := "ytikogkgdkdmljaagreat", sum := "cf44e9f68764eca5338c2ea1030c40e9333f1ab5fca9b48dfc8a05c2e8b473fd", func := "awardingbody/awardingbodylaw29.MarkingSeeds", spec := "markingSeeds", unfollowed := true, recurses := true, plainKeys := false, apart := false, narrowed := true }
def MarkingSeedsUptoSaid : Prop := markingSeedsUptoRow.holds Tryz.pinned (OpenSpec.upto markingSeedsSpec)

/-- 'awardingbodylaw29.MarkingReopens', WHERE WHAT IT READS IS OF BULK AT MOST 1048576: true; the input reads as it did. -/
def markingReopensUptoRow : OpenClaim := { program := "ytikogkgdkdmljaagreat", sum := "cf44e9f68764eca5338c2ea1030c40e9333f1ab5fca9b48dfc8a05c2e8b473fd", func := "awardingbody/awardingbodylaw29.MarkingReopens", spec := "markingReopens", unfollowed := true, recurses := true, plainKeys := false, apart := false, narrowed := true }
def MarkingReopensUptoSaid : Prop := markingReopensUptoRow.holds Tryz.pinned (OpenSpec.upto markingReopensSpec)

/-- 'awardingbodylaw29.MarkingReinstates', WHERE WHAT IT READS IS OF BULK AT MOST 1048576: true; the input reads as it did. -/
def markingReinstatesUptoRow : OpenClaim := { program := "ytikogkgdkdmljaagreat", sum := "cf44e9f68764eca5338c2ea1030c40e9333f1ab5fca9b48dfc8a05c2e8b473fd", func := "awardingbody/awardingbodylaw29.MarkingReinstates", spec := "markingReinstates", unfollowed := true, recurses := true, plainKeys := false, apart := false, narrowed := true }
def MarkingReinstatesUptoSaid : Prop := markingReinstatesUptoRow.holds Tryz.pinned (OpenSpec.upto markingReinstatesSpec)

end Rows
end Go.Proofs.YtikogkgdkdmljaaGreat
