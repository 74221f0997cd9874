/-
  No cell of these rows narrows 'for every input' (looked for: loops, veiled, ifaces, maps, wideKeys, modest, calm, conditions, laid).
  DERIVED. THE GIVEN ROWS OF THIS SEAT. 4 by the template 'for every input the law returns true; each argument reads behind the call as it read before'; 0 by the template 'total and deterministic' (their statements: YthhedegaeeadhaaTotals.lean).
  GIVEN WITH THE SEED: the statements are not yours to turn. If you find one false, say at which input.
  Laid BY PROGRAM, IN A SANDBOX (cutbox-rows.mjs): the forced cells as the released guide's own fill.sh prints them over the translation 5ffdbe165ada4873… (all of the seat's roots in one cut). By AI agents, Wed Nov 11 2026. No macro, syntax, notation, axiom, sorry.
-/
import Derived.Test.YthhedegaeeadhaaChecked
import GoSem.Claim
import GoSem.ClaimJoined
import GoSem.ClaimMapViews
import Derived.JoinedTies
import Derived.KernelRfl
namespace Go.Proofs.Ythhedegaeeadhaa
/- THE CELL 'sum', in the pinned program and in every row, IS THE sha256 OF THE DUMP (.gsa) THAT YthhedegaeeadhaaProg.lean LOADS. Nothing in Lean hashes anything: it is a label: what it is worth is what the hold of that sum in a sandbox is worth. -/
noncomputable def Try.pinned : Pinned := { name := "ythhedegaeeadhaa", sum := "5ffdbe165ada4873c1b0f7fb8c53177104db77762df4a1e8ea76ef020e525e9e", checked := Try.checked }
namespace Rows
def none {H : Type} : Left H := { results := [], args := [] }

/-- 'awardingbodylaw34.EquatingShares': WHATEVER THE INPUT: true; the input reads as it did. -/
def equatingSharesSpec : ChangeSpec := { name := "equatingShares", fn := fun _ => fun
  | [d] => { results := [.lit (.bool true)], args := [d] }
  | _ => none }
def equatingSharesRow : OpenClaim := { program := "ythhedegaeeadhaa", sum := "5ffdbe165ada4873c1b0f7fb8c53177104db77762df4a1e8ea76ef020e525e9e", func := "awardingbody/awardingbodylaw34.EquatingShares", spec := "equatingShares", inPlace := ["math/bits.Add64", "math/bits.Sub64"], unfollowed := true, recurses := true, named := ["math/bits.divideError", "math/bits.overflowError"], apart := false }
def EquatingSharesSaid : Prop := equatingSharesRow.holds Try.pinned (OpenSpec.ofChange equatingSharesSpec)

/-- ITS FALSE NEIGHBOUR: 'it returns false'. Refute it at one input. -/
def equatingSharesWrong : ChangeSpec := { name := "equatingShares", fn := fun _ => fun
  | [d] => { results := [.lit (.bool false)], args := [d] }
  | _ => none }
def EquatingSharesWrongFalsely : Prop := equatingSharesRow.holds Try.pinned (OpenSpec.ofChange equatingSharesWrong)

/-- 'awardingbodylaw34.EquatingMeans': WHATEVER THE INPUT: true; the input reads as it did. -/
def equatingMeansSpec : ChangeSpec := { name := "equatingMeans", fn := fun _ => fun
  | [d] => { results := [.lit (.bool true)], args := [d] }
  | _ => none }
def equatingMeansRow : OpenClaim := { program := "ythhedegaeeadhaa", sum := "5ffdbe165ada4873c1b0f7fb8c53177104db77762df4a1e8ea76ef020e525e9e", func := "awardingbody/awardingbodylaw34.EquatingMeans", spec := "equatingMeans", inPlace := ["math/bits.Add64", "math/bits.Sub64"], unfollowed := true, recurses := true, named := ["math/bits.divideError", "math/bits.overflowError"], apart := false }
def EquatingMeansSaid : Prop := equatingMeansRow.holds Try.pinned (OpenSpec.ofChange equatingMeansSpec)

/-- ITS FALSE NEIGHBOUR: 'it returns false'. Refute it at one input. -/
def equatingMeansWrong : ChangeSpec := { name := "equatingMeans", fn := fun _ => fun
  | [d] => { results := [.lit (.bool false)], args := [d] }
  | _ => none }
def EquatingMeansWrongFalsely : Prop := equatingMeansRow.holds Try.pinned (OpenSpec.ofChange equatingMeansWrong)

/-- 'awardingbodylaw34.EquatingTables': WHATEVER THE INPUT: true; the input reads as it did. -/
def equatingTablesSpec : ChangeSpec := { name := "equatingTables", fn := fun _ => fun
  | [d1, d2] => { results := [.lit (.bool true)], args := [d1, d2] }
  | _ => none }
def equatingTablesRow : OpenClaim := { program := "ythhedegaeeadhaa", sum := "5ffdbe165ada4873c1b0f7fb8c53177104db77762df4a1e8ea76ef020e525e9e", func := "awardingbody/awardingbodylaw34.EquatingTables", spec := "equatingTables", inPlace := ["math/bits.Add64", "math/bits.Sub64"], unfollowed := true, recurses := true, named := ["math/bits.divideError", "math/bits.overflowError"], apart := false }
def EquatingTablesSaid : Prop := equatingTablesRow.holds Try.pinned (OpenSpec.ofChange equatingTablesSpec)

/-- ITS FALSE NEIGHBOUR: 'it returns false'. Refute it at one input. -/
def equatingTablesWrong : ChangeSpec := { name := "equatingTables", fn := fun _ => fun
  | [d1, d2] => { results := [.lit (.bool false)], args := [d1, d2] }
  | _ => none }
def EquatingTablesWrongFalsely : Prop := equatingTablesRow.holds Try.pinned (OpenSpec.ofChange equatingTablesWrong)

/-- 'awardingbodylaw34.EquatingBack': WHATEVER THE INPUT: true; the input reads as it did. -/
def equatingBackSpec : ChangeSpec := { name := "equatingBack", fn := fun _ => fun
  | [d1, d2] => { results := [.lit (.bool true)], args := [d1, d2] }
  | _ => none }
def equatingBackRow : OpenClaim := { program := "ythhedegaeeadhaa", sum := "5ffdbe165ada4873c1b0f7fb8c53177104db77762df4a1e8ea76ef020e525e9e", func := "awardingbody/awardingbodylaw34.EquatingBack", spec := "equatingBack", inPlace := ["math/bits.Add64", "math/bits.Sub64"], unfollowed := true, recurses := true, named := ["math/bits.divideError", "math/bits.overflowError"], apart := false }
def EquatingBackSaid : Prop := equatingBackRow.holds Try.pinned (OpenSpec.ofChange equatingBackSpec)

/-- ITS FALSE NEIGHBOUR: 'it returns false'. Refute it at one input. -/
def equatingBackWrong : ChangeSpec := { name := "equatingBack", fn := fun _ => fun
  | [d1, d2] => { results := [.lit (.bool false)], args := [d1, d2] }
  | _ => none }
def EquatingBackWrongFalsely : Prop := equatingBackRow.holds Try.pinned (OpenSpec.ofChange equatingBackWrong)

/- THE SECOND FORM. 'bulk': how many values and letters a reading holds, each counted each time it is reached (what is shared counts as often as it is met; a slice's spare places count too). A statement '..UptoSaid' is the law's where the arguments, and the package variables that the reading takes, are together of bulk at most 1048576: NARROWER than '..Said'. Prove '..Said' where nothing that the law and all that it calls make is longer than what came in: it says more and counts as full. Else prove '..UptoSaid'. A law counts once. -/
mutual
def uptoBulk {H : Type} : DataW H → Nat
  | .lit (.string bytes) => bytes.length + 1
  | .lit _ => 1
  | .nil => 1
  | .ptr d => uptoBulk d + 1
  | .slice elems spare => uptoBulkAll elems + uptoBulkAll spare + 1
  | .agg parts => uptoBulkAll parts + 1
  | .iface _ d => uptoBulk d + 1
  | .map entries => uptoBulkEntries entries + 1
  | .held _ => 1
def uptoBulkAll {H : Type} : List (DataW H) → Nat
  | [] => 0
  | d :: r => uptoBulk d + uptoBulkAll r
def uptoBulkEntries {H : Type} : List (Lit × DataW H) → Nat
  | [] => 0
  | x :: r => uptoBulkEntry x + uptoBulkEntries r
def uptoBulkEntry {H : Type} : Lit × DataW H → Nat
  | (.string bytes, d) => bytes.length + uptoBulk d + 1
  | (_, d) => uptoBulk d + 1
 end
def uptoSmall : (H : Type) → List (DataW H) → Bool := fun _ ds => decide (uptoBulkAll ds ≤ 1048576)
def OpenSpec.upto (s : _root_.Go.ChangeSpec) : _root_.Go.OpenSpec := { _root_.Go.OpenSpec.ofChange s with cond := some uptoSmall }

/-- 'awardingbodylaw34.EquatingShares', WHERE WHAT IT READS IS OF BULK AT MOST 1048576: true; the input reads as it did. -/
def equatingSharesUptoRow : OpenClaim := { program := "ythhedegaeeadhaa", sum := "5ffdbe165ada4873c1b0f7fb8c53177104db77762df4a1e8ea76ef020e525e9e", func := "awardingbody/awardingbodylaw34.EquatingShares", spec := "equatingShares", inPlace := ["math/bits.Add64", "math/bits.Sub64"], unfollowed := true, recurses := true, named := ["math/bits.divideError", "math/bits.overflowError"], apart := false, narrowed := true }
def EquatingSharesUptoSaid : Prop := equatingSharesUptoRow.holds Try.pinned (OpenSpec.upto equatingSharesSpec)

/-- 'awardingbodylaw34.EquatingMeans', WHERE WHAT IT READS IS OF BULK AT MOST 1048576: true; the input reads as it did. -/
def equatingMeansUptoRow : OpenClaim := { program := "ythhedegaeeadhaa", sum := "5ffdbe165ada4873c1b0f7fb8c53177104db77762df4a1e8ea76ef020e525e9e", func := "awardingbody/awardingbodylaw34.EquatingMeans", spec := "equatingMeans", inPlace := ["math/bits.Add64", "math/bits.Sub64"], unfollowed := true, recurses := true, named := ["math/bits.divideError", "math/bits.overflowError"], apart := false, narrowed := true }
def EquatingMeansUptoSaid : Prop := equatingMeansUptoRow.holds Try.pinned (OpenSpec.upto equatingMeansSpec)

/-- 'awardingbodylaw34.EquatingTables', WHERE WHAT IT READS IS OF BULK AT MOST 1048576: true; the input reads as it did. -/
def equatingTablesUptoRow : OpenClaim := { program := "ythhedegaeeadhaa", sum := "5ffdbe165ada4873c1b0f7fb8c53177104db77762df4a1e8ea76ef020e525e9e", func := "awardingbody/awardingbodylaw34.EquatingTables", spec := "equatingTables", inPlace := ["math/bits.Add64", "math/bits.Sub64"], unfollowed := true, recurses := true, named := ["math/bits.divideError", "math/bits.overflowError"], apart := false, narrowed := true }
def EquatingTablesUptoSaid : Prop := equatingTablesUptoRow.holds Try.pinned (OpenSpec.upto equatingTablesSpec)

/-- 'awardingbodylaw34.EquatingBack', WHERE WHAT IT READS IS OF BULK AT MOST 1048576: true; the input reads as it did. -/
def equatingBackUptoRow : OpenClaim := { program := "ythhedegaeeadhaa", sum := "5ffdbe165ada4873c1b0f7fb8c53177104db77762df4a1e8ea76ef020e525e9e", func := "awardingbody/awardingbodylaw34.EquatingBack", spec := "equatingBack", inPlace := ["math/bits.Add64", "math/bits.Sub64"], unfollowed := true, recurses := true, named := ["math/bits.divideError", "math/bits.overflowError"], apart := false, narrowed := true }
def EquatingBackUptoSaid : Prop := equatingBackUptoRow.holds Try.pinned (OpenSpec.upto equatingBackSpec)

end Rows
end Go.Proofs.Ythhedegaeeadhaa
