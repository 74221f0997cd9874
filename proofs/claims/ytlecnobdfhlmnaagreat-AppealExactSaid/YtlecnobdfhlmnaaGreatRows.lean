/-
  No cell of these rows narrows 'for every input' (looked for: loops, veiled, ifaces, maps, wideKeys, modest, calm, conditions, laid).
  DERIVED. THE GIVEN ROWS OF THIS SEAT. 5 by the template 'for every input the law returns true; each argument reads behind the call as it read before'; 0 by the template 'total and deterministic' (their statements: YtlecnobdfhlmnaaGreatTotals.lean).
  GIVEN WITH THE SEED: the statements are not yours to turn. If you find one false, say at which input.
  Laid BY PROGRAM, IN A SANDBOX (cutbox-rows.mjs): the forced cells as the released guide's own fill.sh prints them over the translation d5f317c9f11fb909… (all of the seat's roots in one cut). By AI agents, Wed Nov 11 2026. No macro, syntax, notation, axiom, sorry.
-/
import Derived.Test.YtlecnobdfhlmnaaGreatChecked
import GoSem.Claim
import GoSem.ClaimJoined
import GoSem.ClaimMapViews
import Derived.JoinedTies
import Derived.KernelRfl
namespace Go.Proofs.YtlecnobdfhlmnaaGreat
/- THE CELL 'sum', in the pinned program and in every row, IS THE sha256 OF THE DUMP (.gsa) THAT YtlecnobdfhlmnaaGreatProg.lean LOADS. Nothing in Lean hashes anything: it is a label: what it is worth is what the hold of that sum in a sandbox is worth. -/
noncomputable def Tryz.pinned : Pinned := { name := "ytlecnobdfhlmnaagreat", sum := "d5f317c9f11fb909011c902814d3b9aa87b345775216e5b1e77e00fe78a555f0", checked := Tryz.checked }
namespace Rows
def none {H : Type} : Left H := { results := [], args := [] }

/-- 'awardingbodylaw38.AppealBlames': WHATEVER THE INPUT: true; the input reads as it did. -/
def appealBlamesSpec : ChangeSpec := { name := "appealBlames", fn := fun _ => fun
  | [d] => { results := [.lit (.bool true)], args := [d] }
  | _ => none }
def appealBlamesRow : OpenClaim := { program := "ytlecnobdfhlmnaagreat", sum := "d5f317c9f11fb909011c902814d3b9aa87b345775216e5b1e77e00fe78a555f0", func := "awardingbody/awardingbodylaw38.AppealBlames", spec := "appealBlames", inPlace := ["math/bits.Add64"], unfollowed := true, recurses := true, named := ["math/bits.divideError", "math/bits.overflowError"], plainKeys := false, apart := false }
def AppealBlamesSaid : Prop := appealBlamesRow.holds Tryz.pinned (OpenSpec.ofChange appealBlamesSpec)

/-- ITS FALSE NEIGHBOUR: 'it returns false'. Refute it at one input. -/
def appealBlamesWrong : ChangeSpec := { name := "appealBlames", fn := fun _ => fun
  | [d] => { results := [.lit (.bool false)], args := [d] }
  | _ => none }
def AppealBlamesWrongFalsely : Prop := appealBlamesRow.holds Tryz.pinned (OpenSpec.ofChange appealBlamesWrong)

/-- 'awardingbodylaw38.AppealOrder': WHATEVER THE INPUT: true; the input reads as it did. -/
def appealOrderSpec : ChangeSpec := { name := "appealOrder", fn := fun _ => fun
  | [d] => { results := [.lit (.bool true)], args := [d] }
  | _ => none }
def appealOrderRow : OpenClaim := { program := "ytlecnobdfhlmnaagreat", sum := "d5f317c9f11fb909011c902814d3b9aa87b345775216e5b1e77e00fe78a555f0", func := "awardingbody/awardingbodylaw38.AppealOrder", spec := "appealOrder", inPlace := ["math/bits.Add64"], unfollowed := true, recurses := true, named := ["math/bits.divideError", "math/bits.overflowError"], plainKeys := false, apart := false }
def AppealOrderSaid : Prop := appealOrderRow.holds Tryz.pinned (OpenSpec.ofChange appealOrderSpec)

/-- ITS FALSE NEIGHBOUR: 'it returns false'. Refute it at one input. -/
def appealOrderWrong : ChangeSpec := { name := "appealOrder", fn := fun _ => fun
  | [d] => { results := [.lit (.bool false)], args := [d] }
  | _ => none }
def AppealOrderWrongFalsely : Prop := appealOrderRow.holds Tryz.pinned (OpenSpec.ofChange appealOrderWrong)

/-- 'awardingbodylaw38.AppealSeniors': WHATEVER THE INPUT: true; the input reads as it did. -/
def appealSeniorsSpec : ChangeSpec := { name := "appealSeniors", fn := fun _ => fun
  | [d] => { results := [.lit (.bool true)], args := [d] }
  | _ => none }
def appealSeniorsRow : OpenClaim := { program := "ytlecnobdfhlmnaagreat", sum := "d5f317c9f11fb909011c902814d3b9aa87b345775216e5b1e77e00fe78a555f0", func := "awardingbody/awardingbodylaw38.AppealSeniors", spec := "appealSeniors", inPlace := ["math/bits.Add64"], unfollowed := true, recurses := true, named := ["math/bits.divideError", "math/bits.overflowError"], plainKeys := false, apart := false }
def AppealSeniorsSaid : Prop := appealSeniorsRow.holds Tryz.pinned (OpenSpec.ofChange appealSeniorsSpec)

/-- ITS FALSE NEIGHBOUR: 'it returns false'. Refute it at one input. -/
def appealSeniorsWrong : ChangeSpec := { name := "appealSeniors", fn := fun _ => fun
  | [d] => { results := [.lit (.bool false)], args := [d] }
  | _ => none }
def AppealSeniorsWrongFalsely : Prop := appealSeniorsRow.holds Tryz.pinned (OpenSpec.ofChange appealSeniorsWrong)

/-- 'awardingbodylaw38.AppealExact': WHATEVER THE INPUT: true; the input reads as it did. -/
def appealExactSpec : ChangeSpec := { name := "appealExact", fn := fun _ => fun
  | [d1, d2, d3, d4] => { results := [.lit (.bool true)], args := [d1, d2, d3, d4] }
  | _ => none }
def appealExactRow : OpenClaim := { program := "ytlecnobdfhlmnaagreat", sum := "d5f317c9f11fb909011c902814d3b9aa87b345775216e5b1e77e00fe78a555f0", func := "awardingbody/awardingbodylaw38.AppealExact", spec := "appealExact", inPlace := ["math/bits.Add64"], unfollowed := true, recurses := true, named := ["math/bits.divideError", "math/bits.overflowError"], plainKeys := false, apart := false }
def AppealExactSaid : Prop := appealExactRow.holds Tryz.pinned (OpenSpec.ofChange appealExactSpec)

/-- ITS FALSE NEIGHBOUR: 'it returns false'. Refute it at one input. -/
def appealExactWrong : ChangeSpec := { name := "appealExact", fn := fun _ => fun
  | [d1, d2, d3, d4] => { results := [.lit (.bool false)], args := [d1, d2, d3, d4] }
  | _ => none }
def AppealExactWrongFalsely : Prop := appealExactRow.holds Tryz.pinned (OpenSpec.ofChange appealExactWrong)

/-- 'awardingbodylaw38.AppealScopes': WHATEVER THE INPUT: true; the input reads as it did. -/
def appealScopesSpec : ChangeSpec := { name := "appealScopes", fn := fun _ => fun
  | [d] => { results := [.lit (.bool true)], args := [d] }
  | _ => none }
def appealScopesRow : OpenClaim := { program := "ytlecnobdfhlmnaagreat", sum := "d5f317c9f11fb909011c902814d3b9aa87b345775216e5b1e77e00fe78a555f0", func := "awardingbody/awardingbodylaw38.AppealScopes", spec := "appealScopes", inPlace := ["math/bits.Add64"], unfollowed := true, recurses := true, named := ["math/bits.divideError", "math/bits.overflowError"], plainKeys := false, apart := false }
def AppealScopesSaid : Prop := appealScopesRow.holds Tryz.pinned (OpenSpec.ofChange appealScopesSpec)

/-- ITS FALSE NEIGHBOUR: 'it returns false'. Refute it at one input. -/
def appealScopesWrong : ChangeSpec := { name := "appealScopes", fn := fun _ => fun
  | [d] => { results := [.lit (.bool false)], args := [d] }
  | _ => none }
def AppealScopesWrongFalsely : Prop := appealScopesRow.holds Tryz.pinned (OpenSpec.ofChange appealScopesWrong)

/- THE SECOND FORM. 'bulk': how many values and letters a reading holds, each counted each time it is reached (what is shared counts as often as it is met; a slice's spare places count too). A statement '..UptoSaid' is the law's where the arguments, and the package variables that the reading takes, are together of bulk at most 1048576: NARROWER than '..Said'. Prove '..Said' where nothing that the law and all that it calls make is longer than what came in: it says more and counts as full. Else prove '..UptoSaid'. A law counts once. -/
mutual
def uptoBulk {H : Type} : DataW H → Nat
  | .lit (.string bytes) => bytes.length + 1
  | .lit _ => 1
  | .nil => 1
  | .ptr d => uptoBulk d + 1
  | .slice elems spare => uptoBulkAll elems + uptoBulkAll spare + 1
  | .agg parts => uptoBulkAll parts + 1
  | .iface _ d => uptoBulk d + 1
  | .map entries => uptoBulkEntries entries + 1
  | .held _ => 1
def uptoBulkAll {H : Type} : List (DataW H) → Nat
  | [] => 0
  | d :: r => uptoBulk d + uptoBulkAll r
def uptoBulkEntries {H : Type} : List (Lit × DataW H) → Nat
  | [] => 0
  | x :: r => uptoBulkEntry x + uptoBulkEntries r
def uptoBulkEntry {H : Type} : Lit × DataW H → Nat
  | (.string bytes, d) => bytes.length + uptoBulk d + 1
  | (_, d) => uptoBulk d + 1
 end
def uptoSmall : (H : Type) → List (DataW H) → Bool := fun _ ds => decide (uptoBulkAll ds ≤ 1048576)
def OpenSpec.upto (s : _root_.Go.ChangeSpec) : _root_.Go.OpenSpec := { _root_.Go.OpenSpec.ofChange s with cond := some uptoSmall }

/-- 'awardingbodylaw38.AppealBlames', WHERE WHAT IT READS IS OF BULK AT MOST 1048576: true; the input reads as it did. -/
def appealBlamesUptoRow : OpenClaim := { program := "ytlecnobdfhlmnaagreat", sum := "d5f317c9f11fb909011c902814d3b9aa87b345775216e5b1e77e00fe78a555f0", func := "awardingbody/awardingbodylaw38.AppealBlames", spec := "appealBlames", inPlace := ["math/bits.Add64"], unfollowed := true, recurses := true, named := ["math/bits.divideError", "math/bits.overflowError"], plainKeys := false, apart := false, narrowed := true }
def AppealBlamesUptoSaid : Prop := appealBlamesUptoRow.holds Tryz.pinned (OpenSpec.upto appealBlamesSpec)

/-- 'awardingbodylaw38.AppealOrder', WHERE WHAT IT READS IS OF BULK AT MOST 1048576: true; the input reads as it did. -/
def appealOrderUptoRow : OpenClaim := { program := "ytlecnobdfhlmnaagreat", sum := "d5f317c9f11fb909011c902814d3b9aa87b345775216e5b1e77e00fe78a555f0", func := "awardingbody/awardingbodylaw38.AppealOrder", spec := "appealOrder", inPlace := ["math/bits.Add64"], unfollowed := true, recurses := true, named := ["math/bits.divideError", "math/bits.overflowError"], plainKeys := false, apart := false, narrowed := true }
def AppealOrderUptoSaid : Prop := appealOrderUptoRow.holds Tryz.pinned (OpenSpec.upto appealOrderSpec)

/-- 'awardingbodylaw38.AppealSeniors', WHERE WHAT IT READS IS OF BULK AT MOST 1048576: true; the input reads as it did. -/
def appealSeniorsUptoRow : OpenClaim := { program := "ytlecnobdfhlmnaagreat", sum := "d5f317c9f11fb909011c902814d3b9aa87b345775216e5b1e77e00fe78a555f0", func := "awardingbody/awardingbodylaw38.AppealSeniors", spec := "appealSeniors", inPlace := ["math/bits.Add64"], unfollowed := true, recurses := true, named := ["math/bits.divideError", "math/bits.overflowError"], plainKeys := false, apart := false, narrowed := true }
def AppealSeniorsUptoSaid : Prop := appealSeniorsUptoRow.holds Tryz.pinned (OpenSpec.upto appealSeniorsSpec)

/-- 'awardingbodylaw38.AppealExact', WHERE WHAT IT READS IS OF BULK AT MOST 1048576: true; the input reads as it did. -/
def appealExactUptoRow : OpenClaim := { program := "ytlecnobdfhlmnaagreat", sum := "d5f317c9f11fb909011c902814d3b9aa87b345775216e5b1e77e00fe78a555f0", func := "awardingbody/awardingbodylaw38.AppealExact", spec := "appealExact", inPlace := ["math/bits.Add64"], unfollowed := true, recurses := true, named := ["math/bits.divideError", "math/bits.overflowError"], plainKeys := false, apart := false, narrowed := true }
def AppealExactUptoSaid : Prop := appealExactUptoRow.holds Tryz.pinned (OpenSpec.upto appealExactSpec)

/-- 'awardingbodylaw38.AppealScopes', WHERE WHAT IT READS IS OF BULK AT MOST 1048576: true; the input reads as it did. -/
def appealScopesUptoRow : OpenClaim := { program := "ytlecnobdfhlmnaagreat", sum := "d5f317c9f11fb909011c902814d3b9aa87b345775216e5b1e77e00fe78a555f0", func := "awardingbody/awardingbodylaw38.AppealScopes", spec := "appealScopes", inPlace := ["math/bits.Add64"], unfollowed := true, recurses := true, named := ["math/bits.divideError", "math/bits.overflowError"], plainKeys := false, apart := false, narrowed := true }
def AppealScopesUptoSaid : Prop := appealScopesUptoRow.holds Tryz.pinned (OpenSpec.upto appealScopesSpec)

end Rows
end Go.Proofs.YtlecnobdfhlmnaaGreat
