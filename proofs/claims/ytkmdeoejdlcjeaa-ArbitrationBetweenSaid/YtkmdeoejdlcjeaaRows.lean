/-
  No cell of these rows narrows 'for every input' (looked for: loops, veiled, ifaces, maps, wideKeys, modest, calm, conditions, laid).
  DERIVED. THE GIVEN ROWS OF THIS SEAT. 3 by the template 'for every input the law returns true; each argument reads behind the call as it read before'; 0 by the template 'total and deterministic' (their statements: YtkmdeoejdlcjeaaTotals.lean).
  GIVEN WITH THE SEED: the statements are not yours to turn. If you find one false, say at which input.
  Laid BY PROGRAM, IN A SANDBOX (cutbox-rows.mjs): the forced cells as the released guide's own fill.sh prints them over the translation c92f750e55060254… (all of the seat's roots in one cut). By AI agents, Wed Nov 11 2026. No macro, syntax, notation, axiom, sorry.
-/
import Derived.Test.YtkmdeoejdlcjeaaChecked
import GoSem.Claim
import GoSem.ClaimJoined
import GoSem.ClaimMapViews
import Derived.JoinedTies
import Derived.KernelRfl
namespace Go.Proofs.Ytkmdeoejdlcjeaa
/- THE CELL 'sum', in the pinned program and in every row, IS THE sha256 OF THE DUMP (.gsa) THAT YtkmdeoejdlcjeaaProg.lean LOADS. Nothing in Lean hashes anything: it is a label: what it is worth is what the hold of that sum in a sandbox is worth. -/
noncomputable def Try.pinned : Pinned := { name := "ytkmdeoejdlcjeaa", sum := "c92f750e5506025444eb78e63cecf1e03e185e42f22f371b7df722002dfba9e8", checked := Try.checked }
namespace Rows
def none {H : Type} : Left H := { results := [], args := [] }

/-- 'awardingbodylaw30.ArbitrationOrder': WHATEVER THE INPUT: true; the input reads as it did. -/
def arbitrationOrderSpec : ChangeSpec := { name := "arbitrationOrder", fn := fun _ => fun
  | [d1, d2] => { results := [.lit (.bool true)], args := [d1, d2] }
  | _ => none }
def arbitrationOrderRow : OpenClaim := { program := "ytkmdeoejdlcjeaa", sum := "c92f750e5506025444eb78e63cecf1e03e185e42f22f371b7df722002dfba9e8", func := "awardingbody/awardingbodylaw30.ArbitrationOrder", spec := "arbitrationOrder", inPlace := ["math/bits.Add64"], named := ["math/bits.divideError", "math/bits.overflowError"], apart := false }
def ArbitrationOrderSaid : Prop := arbitrationOrderRow.holds Try.pinned (OpenSpec.ofChange arbitrationOrderSpec)

/-- ITS FALSE NEIGHBOUR: 'it returns false'. Refute it at one input. -/
def arbitrationOrderWrong : ChangeSpec := { name := "arbitrationOrder", fn := fun _ => fun
  | [d1, d2] => { results := [.lit (.bool false)], args := [d1, d2] }
  | _ => none }
def ArbitrationOrderWrongFalsely : Prop := arbitrationOrderRow.holds Try.pinned (OpenSpec.ofChange arbitrationOrderWrong)

/-- 'awardingbodylaw30.ArbitrationBetween': WHATEVER THE INPUT: true; the input reads as it did. -/
def arbitrationBetweenSpec : ChangeSpec := { name := "arbitrationBetween", fn := fun _ => fun
  | [d] => { results := [.lit (.bool true)], args := [d] }
  | _ => none }
def arbitrationBetweenRow : OpenClaim := { program := "ytkmdeoejdlcjeaa", sum := "c92f750e5506025444eb78e63cecf1e03e185e42f22f371b7df722002dfba9e8", func := "awardingbody/awardingbodylaw30.ArbitrationBetween", spec := "arbitrationBetween", inPlace := ["math/bits.Add64"], named := ["math/bits.divideError", "math/bits.overflowError"], apart := false }
def ArbitrationBetweenSaid : Prop := arbitrationBetweenRow.holds Try.pinned (OpenSpec.ofChange arbitrationBetweenSpec)

/-- ITS FALSE NEIGHBOUR: 'it returns false'. Refute it at one input. -/
def arbitrationBetweenWrong : ChangeSpec := { name := "arbitrationBetween", fn := fun _ => fun
  | [d] => { results := [.lit (.bool false)], args := [d] }
  | _ => none }
def ArbitrationBetweenWrongFalsely : Prop := arbitrationBetweenRow.holds Try.pinned (OpenSpec.ofChange arbitrationBetweenWrong)

/-- 'awardingbodylaw30.ArbitrationRises': WHATEVER THE INPUT: true; the input reads as it did. -/
def arbitrationRisesSpec : ChangeSpec := { name := "arbitrationRises", fn := fun _ => fun
  | [d1, d2, d3] => { results := [.lit (.bool true)], args := [d1, d2, d3] }
  | _ => none }
def arbitrationRisesRow : OpenClaim := { program := "ytkmdeoejdlcjeaa", sum := "c92f750e5506025444eb78e63cecf1e03e185e42f22f371b7df722002dfba9e8", func := "awardingbody/awardingbodylaw30.ArbitrationRises", spec := "arbitrationRises", inPlace := ["math/bits.Add64"], named := ["math/bits.divideError", "math/bits.overflowError"], apart := false }
def ArbitrationRisesSaid : Prop := arbitrationRisesRow.holds Try.pinned (OpenSpec.ofChange arbitrationRisesSpec)

/-- ITS FALSE NEIGHBOUR: 'it returns false'. Refute it at one input. -/
def arbitrationRisesWrong : ChangeSpec := { name := "arbitrationRises", fn := fun _ => fun
  | [d1, d2, d3] => { results := [.lit (.bool false)], args := [d1, d2, d3] }
  | _ => none }
def ArbitrationRisesWrongFalsely : Prop := arbitrationRisesRow.holds Try.pinned (OpenSpec.ofChange arbitrationRisesWrong)

/- THE SECOND FORM. 'bulk': how many values and letters a reading holds, each counted each time it is reached (what is shared counts as often as it is met; a slice's spare places count too). A statement '..UptoSaid' is the law's where the arguments, and the package variables that the reading takes, are together of bulk at most 1048576: NARROWER than '..Said'. Prove '..Said' where nothing that the law and all that it calls make is longer than what came in: it says more and counts as full. Else prove '..UptoSaid'. A law counts once. -/
mutual
def uptoBulk {H : Type} : DataW H → Nat
  | .lit (.string bytes) => bytes.length + 1
  | .lit _ => 1
  | .nil => 1
  | .ptr d => uptoBulk d + 1
  | .slice elems spare => uptoBulkAll elems + uptoBulkAll spare + 1
  | .agg parts => uptoBulkAll parts + 1
  | .iface _ d => uptoBulk d + 1
  | .map entries => uptoBulkEntries entries + 1
  | .held _ => 1
def uptoBulkAll {H : Type} : List (DataW H) → Nat
  | [] => 0
  | d :: r => uptoBulk d + uptoBulkAll r
def uptoBulkEntries {H : Type} : List (Lit × DataW H) → Nat
  | [] => 0
  | x :: r => uptoBulkEntry x + uptoBulkEntries r
def uptoBulkEntry {H : Type} : Lit × DataW H → Nat
  | (.string bytes, d) => bytes.length + uptoBulk d + 1
  | (_, d) => uptoBulk d + 1
 end
def uptoSmall : (H : Type) → List (DataW H) → Bool := fun _ ds => decide (uptoBulkAll ds ≤ 1048576)
def OpenSpec.upto (s : _root_.Go.ChangeSpec) : _root_.Go.OpenSpec := { _root_.Go.OpenSpec.ofChange s with cond := some uptoSmall }

/-- 'awardingbodylaw30.ArbitrationOrder', WHERE WHAT IT READS IS OF BULK AT MOST 1048576: true; the input reads as it did. -/
def arbitrationOrderUptoRow : OpenClaim := { program := "ytkmdeoejdlcjeaa", sum := "c92f750e5506025444eb78e63cecf1e03e185e42f22f371b7df722002dfba9e8", func := "awardingbody/awardingbodylaw30.ArbitrationOrder", spec := "arbitrationOrder", inPlace := ["math/bits.Add64"], named := ["math/bits.divideError", "math/bits.overflowError"], apart := false, narrowed := true }
def ArbitrationOrderUptoSaid : Prop := arbitrationOrderUptoRow.holds Try.pinned (OpenSpec.upto arbitrationOrderSpec)

/-- 'awardingbodylaw30.ArbitrationBetween', WHERE WHAT IT READS IS OF BULK AT MOST 1048576: true; the input reads as it did. -/
def arbitrationBetweenUptoRow : OpenClaim := { program := "ytkmdeoejdlcjeaa", sum := "c92f750e5506025444eb78e63cecf1e03e185e42f22f371b7df722002dfba9e8", func := "awardingbody/awardingbodylaw30.ArbitrationBetween", spec := "arbitrationBetween", inPlace := ["math/bits.Add64"], named := ["math/bits.divideError", "math/bits.overflowError"], apart := false, narrowed := true }
def ArbitrationBetweenUptoSaid : Prop := arbitrationBetweenUptoRow.holds Try.pinned (OpenSpec.upto arbitrationBetweenSpec)

/-- 'awardingbodylaw30.ArbitrationRises', WHERE WHAT IT READS IS OF BULK AT MOST 1048576: true; the input reads as it did. -/
def arbitrationRisesUptoRow : OpenClaim := { program := "ytkmdeoejdlcjeaa", sum := "c92f750e5506025444eb78e63cecf1e03e185e42f22f371b7df722002dfba9e8", func := "awardingbody/awardingbodylaw30.ArbitrationRises", spec := "arbitrationRises", inPlace := ["math/bits.Add64"], named := ["math/bits.divideError", "math/bits.overflowError"], apart := false, narrowed := true }
def ArbitrationRisesUptoSaid : Prop := arbitrationRisesUptoRow.holds Try.pinned (OpenSpec.upto arbitrationRisesSpec)

end Rows
end Go.Proofs.Ytkmdeoejdlcjeaa
