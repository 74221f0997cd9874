/-
  No cell of these rows narrows 'for every input' (looked for: loops, veiled, ifaces, maps, wideKeys, modest, calm, conditions, laid).
  DERIVED. THE GIVEN ROWS OF THIS SEAT. 3 by the template 'for every input the law returns true; each argument reads behind the call as it read before'; 0 by the template 'total and deterministic' (their statements: YtohpjbokhcifbaaTotals.lean).
  GIVEN WITH THE SEED: the statements are not yours to turn. If you find one false, say at which input.
  Laid BY PROGRAM, IN A SANDBOX (cutbox-rows.mjs): the forced cells as the released guide's own fill.sh prints them over the translation d6a3e74befb3dcfc… (all of the seat's roots in one cut). By AI agents, Wed Nov 11 2026. No macro, syntax, notation, axiom, sorry.
-/
import Derived.Test.YtohpjbokhcifbaaChecked
import GoSem.Claim
import GoSem.ClaimJoined
import GoSem.ClaimMapViews
import Derived.JoinedTies
import Derived.KernelRfl
namespace Go.Proofs.Ytohpjbokhcifbaa
/- THE CELL 'sum', in the pinned program and in every row, IS THE sha256 OF THE DUMP (.gsa) THAT YtohpjbokhcifbaaProg.lean LOADS. Nothing in Lean hashes anything: it is a label: what it is worth is what the hold of that sum in a sandbox is worth. -/
noncomputable def Try.pinned : Pinned := { name := "ytohpjbokhcifbaa", sum := "d6a3e74befb3dcfcd47a577a1e971455f2cf6d40ac1b636c4f368fe273f7aea2", checked := Try.checked }
namespace Rows
def none {H : Type} : Left H := { results := [], args := [] }

/-- 'awardingbodylaw31.SeverityBounds': WHATEVER THE INPUT: true; the input reads as it did. -/
def severityBoundsSpec : ChangeSpec := { name := "severityBounds", fn := fun _ => fun
  | [d] => { results := [.lit (.bool true)], args := [d] }
  | _ => none }
def severityBoundsRow : OpenClaim := { program := "ytohpjbokhcifbaa", sum := "d6a3e74befb3dcfcd47a577a1e971455f2cf6d40ac1b636c4f368fe273f7aea2", func := "awardingbody/awardingbodylaw31.SeverityBounds", spec := "severityBounds", inPlace := ["math/bits.Sub64", "math/bits.Add64"], unfollowed := true, recurses := true, named := ["math/bits.divideError", "math/bits.overflowError"], apart := false }
def SeverityBoundsSaid : Prop := severityBoundsRow.holds Try.pinned (OpenSpec.ofChange severityBoundsSpec)

/-- ITS FALSE NEIGHBOUR: 'it returns false'. Refute it at one input. -/
def severityBoundsWrong : ChangeSpec := { name := "severityBounds", fn := fun _ => fun
  | [d] => { results := [.lit (.bool false)], args := [d] }
  | _ => none }
def SeverityBoundsWrongFalsely : Prop := severityBoundsRow.holds Try.pinned (OpenSpec.ofChange severityBoundsWrong)

/-- 'awardingbodylaw31.SeverityRanks': WHATEVER THE INPUT: true; the input reads as it did. -/
def severityRanksSpec : ChangeSpec := { name := "severityRanks", fn := fun _ => fun
  | [d] => { results := [.lit (.bool true)], args := [d] }
  | _ => none }
def severityRanksRow : OpenClaim := { program := "ytohpjbokhcifbaa", sum := "d6a3e74befb3dcfcd47a577a1e971455f2cf6d40ac1b636c4f368fe273f7aea2", func := "awardingbody/awardingbodylaw31.SeverityRanks", spec := "severityRanks", inPlace := ["math/bits.Sub64", "math/bits.Add64"], unfollowed := true, recurses := true, named := ["math/bits.divideError", "math/bits.overflowError"], apart := false }
def SeverityRanksSaid : Prop := severityRanksRow.holds Try.pinned (OpenSpec.ofChange severityRanksSpec)

/-- ITS FALSE NEIGHBOUR: 'it returns false'. Refute it at one input. -/
def severityRanksWrong : ChangeSpec := { name := "severityRanks", fn := fun _ => fun
  | [d] => { results := [.lit (.bool false)], args := [d] }
  | _ => none }
def SeverityRanksWrongFalsely : Prop := severityRanksRow.holds Try.pinned (OpenSpec.ofChange severityRanksWrong)

/-- 'awardingbodylaw31.SeverityKappa': WHATEVER THE INPUT: true; the input reads as it did. -/
def severityKappaSpec : ChangeSpec := { name := "severityKappa", fn := fun _ => fun
  | [d1, d2, d3] => { results := [.lit (.bool true)], args := [d1, d2, d3] }
  | _ => none }
def severityKappaRow : OpenClaim := { program := "ytohpjbokhcifbaa", sum := "d6a3e74befb3dcfcd47a577a1e971455f2cf6d40ac1b636c4f368fe273f7aea2", func := "awardingbody/awardingbodylaw31.SeverityKappa", spec := "severityKappa", inPlace := ["math/bits.Sub64", "math/bits.Add64"], unfollowed := true, recurses := true, named := ["math/bits.divideError", "math/bits.overflowError"], apart := false }
def SeverityKappaSaid : Prop := severityKappaRow.holds Try.pinned (OpenSpec.ofChange severityKappaSpec)

/-- ITS FALSE NEIGHBOUR: 'it returns false'. Refute it at one input. -/
def severityKappaWrong : ChangeSpec := { name := "severityKappa", fn := fun _ => fun
  | [d1, d2, d3] => { results := [.lit (.bool false)], args := [d1, d2, d3] }
  | _ => none }
def SeverityKappaWrongFalsely : Prop := severityKappaRow.holds Try.pinned (OpenSpec.ofChange severityKappaWrong)

/- THE SECOND FORM. 'bulk': how many values and letters a reading holds, each counted each time it is reached (what is shared counts as often as it is met; a slice's spare places count too). A statement '..UptoSaid' is the law's where the arguments, and the package variables that the reading takes, are together of bulk at most 1048576: NARROWER than '..Said'. Prove '..Said' where nothing that the law and all that it calls make is longer than what came in: it says more and counts as full. Else prove '..UptoSaid'. A law counts once. -/
mutual
def uptoBulk {H : Type} : DataW H → Nat
  | .lit (.string bytes) => bytes.length + 1
  | .lit _ => 1
  | .nil => 1
  | .ptr d => uptoBulk d + 1
  | .slice elems spare => uptoBulkAll elems + uptoBulkAll spare + 1
  | .agg parts => uptoBulkAll parts + 1
  | .iface _ d => uptoBulk d + 1
  | .map entries => uptoBulkEntries entries + 1
  | .held _ => 1
def uptoBulkAll {H : Type} : List (DataW H) → Nat
  | [] => 0
  | d :: r => uptoBulk d + uptoBulkAll r
def uptoBulkEntries {H : Type} : List (Lit × DataW H) → Nat
  | [] => 0
  | x :: r => uptoBulkEntry x + uptoBulkEntries r
def uptoBulkEntry {H : Type} : Lit × DataW H → Nat
  | (.string bytes, d) => bytes.length + uptoBulk d + 1
  | (_, d) => uptoBulk d + 1
 end
def uptoSmall : (H : Type) → List (DataW H) → Bool := fun _ ds => decide (uptoBulkAll ds ≤ 1048576)
def OpenSpec.upto (s : _root_.Go.ChangeSpec) : _root_.Go.OpenSpec := { _root_.Go.OpenSpec.ofChange s with cond := some uptoSmall }

/-- 'awardingbodylaw31.SeverityBounds', WHERE WHAT IT READS IS OF BULK AT MOST 1048576: true; the input reads as it did. -/
def severityBoundsUptoRow : OpenClaim := { program := "ytohpjbokhcifbaa", sum := "d6a3e74befb3dcfcd47a577a1e971455f2cf6d40ac1b636c4f368fe273f7aea2", func := "awardingbody/awardingbodylaw31.SeverityBounds", spec := "severityBounds", inPlace := ["math/bits.Sub64", "math/bits.Add64"], unfollowed := true, recurses := true, named := ["math/bits.divideError", "math/bits.overflowError"], apart := false, narrowed := true }
def SeverityBoundsUptoSaid : Prop := severityBoundsUptoRow.holds Try.pinned (OpenSpec.upto severityBoundsSpec)

/-- 'awardingbodylaw31.SeverityRanks', WHERE WHAT IT READS IS OF BULK AT MOST 1048576: true; the input reads as it did. -/
def severityRanksUptoRow : OpenClaim := { program := "ytohpjbokhcifbaa", sum := "d6a3e74befb3dcfcd47a577a1e971455f2cf6d40ac1b636c4f368fe273f7aea2", func := "awardingbody/awardingbodylaw31.SeverityRanks", spec := "severityRanks", inPlace := ["math/bits.Sub64", "math/bits.Add64"], unfollowed := true, recurses := true, named := ["math/bits.divideError", "math/bits.overflowError"], apart := false, narrowed := true }
def SeverityRanksUptoSaid : Prop := severityRanksUptoRow.holds Try.pinned (OpenSpec.upto severityRanksSpec)

/-- 'awardingbodylaw31.SeverityKappa', WHERE WHAT IT READS IS OF BULK AT MOST 1048576: true; the input reads as it did. -/
def severityKappaUptoRow : OpenClaim := { program := "ytohpjbokhcifbaa", sum := "d6a3e74befb3dcfcd47a577a1e971455f2cf6d40ac1b636c4f368fe273f7aea2", func := "awardingbody/awardingbodylaw31.SeverityKappa", spec := "severityKappa", inPlace := ["math/bits.Sub64", "math/bits.Add64"], unfollowed := true, recurses := true, named := ["math/bits.divideError", "math/bits.overflowError"], apart := false, narrowed := true }
def SeverityKappaUptoSaid : Prop := severityKappaUptoRow.holds Try.pinned (OpenSpec.upto severityKappaSpec)

end Rows
end Go.Proofs.Ytohpjbokhcifbaa
