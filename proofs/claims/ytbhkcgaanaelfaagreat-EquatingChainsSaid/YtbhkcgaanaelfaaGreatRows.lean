/-
  No cell of these rows narrows 'for every input' (looked for: loops, veiled, ifaces, maps, wideKeys, modest, calm, conditions, laid).
  DERIVED. THE GIVEN ROWS OF THIS SEAT. 3 by the template 'for every input the law returns true; each argument reads behind the call as it read before'; 0 by the template 'total and deterministic' (their statements: YtbhkcgaanaelfaaGreatTotals.lean).
  GIVEN WITH THE SEED: the statements are not yours to turn. If you find one false, say at which input.
  Laid BY PROGRAM, IN A SANDBOX (cutbox-rows.mjs): the forced cells as the released guide's own fill.sh prints them over the translation f18367cbc0d0b1b3… (all of the seat's roots in one cut). By AI agents, Wed Nov 11 2026. No macro, syntax, notation, axiom, sorry.
-/
import Derived.Test.YtbhkcgaanaelfaaGreatChecked
import GoSem.Claim
import GoSem.ClaimJoined
import GoSem.ClaimMapViews
import Derived.JoinedTies
import Derived.KernelRfl
namespace Go.Proofs.YtbhkcgaanaelfaaGreat
/- THE CELL 'sum', in the pinned program and in every row, IS THE sha256 OF THE DUMP (.gsa) THAT YtbhkcgaanaelfaaGreatProg.lean LOADS. Nothing in Lean hashes anything: it is a label: what it is worth is what the hold of that sum in a sandbox is worth. -/
noncomputable def Tryz.pinned : Pinned := { name := "ytbhkcgaanaelfaagreat", sum := "f18367cbc0d0b1b3b853b55ddb8ce38b87c78745aa841a7b880cfb783bce8c97", checked := Tryz.checked }
namespace Rows
def none {H : Type} : Left H := { results := [], args := [] }

/-- 'awardingbodylaw33.ConversionExact': WHATEVER THE INPUT: true; the input reads as it did. -/
def conversionExactSpec : ChangeSpec := { name := "conversionExact", fn := fun _ => fun
  | [d1, d2, d3, d4, d5, d6] => { results := [.lit (.bool true)], args := [d1, d2, d3, d4, d5, d6] }
  | _ => none }
def conversionExactRow : OpenClaim := { program := "ytbhkcgaanaelfaagreat", sum := "f18367cbc0d0b1b3b853b55ddb8ce38b87c78745aa841a7b880cfb783bce8c97", func := "awardingbody/awardingbodylaw33.ConversionExact", spec := "conversionExact", inPlace := ["math/bits.Add64", "math/bits.Sub64"], unfollowed := true, recurses := true, named := ["math/bits.divideError", "math/bits.overflowError"], apart := false }
def ConversionExactSaid : Prop := conversionExactRow.holds Tryz.pinned (OpenSpec.ofChange conversionExactSpec)

/-- ITS FALSE NEIGHBOUR: 'it returns false'. Refute it at one input. -/
def conversionExactWrong : ChangeSpec := { name := "conversionExact", fn := fun _ => fun
  | [d1, d2, d3, d4, d5, d6] => { results := [.lit (.bool false)], args := [d1, d2, d3, d4, d5, d6] }
  | _ => none }
def ConversionExactWrongFalsely : Prop := conversionExactRow.holds Tryz.pinned (OpenSpec.ofChange conversionExactWrong)

/-- 'awardingbodylaw34.EquatingChains': WHATEVER THE INPUT: true; the input reads as it did. -/
def equatingChainsSpec : ChangeSpec := { name := "equatingChains", fn := fun _ => fun
  | [d1, d2] => { results := [.lit (.bool true)], args := [d1, d2] }
  | _ => none }
def equatingChainsRow : OpenClaim := { program := "ytbhkcgaanaelfaagreat", sum := "f18367cbc0d0b1b3b853b55ddb8ce38b87c78745aa841a7b880cfb783bce8c97", func := "awardingbody/awardingbodylaw34.EquatingChains", spec := "equatingChains", inPlace := ["math/bits.Add64", "math/bits.Sub64"], unfollowed := true, recurses := true, named := ["math/bits.divideError", "math/bits.overflowError"], apart := false }
def EquatingChainsSaid : Prop := equatingChainsRow.holds Tryz.pinned (OpenSpec.ofChange equatingChainsSpec)

/-- ITS FALSE NEIGHBOUR: 'it returns false'. Refute it at one input. -/
def equatingChainsWrong : ChangeSpec := { name := "equatingChains", fn := fun _ => fun
  | [d1, d2] => { results := [.lit (.bool false)], args := [d1, d2] }
  | _ => none }
def EquatingChainsWrongFalsely : Prop := equatingChainsRow.holds Tryz.pinned (OpenSpec.ofChange equatingChainsWrong)

/-- 'awardingbodylaw34.EquatingExact': WHATEVER THE INPUT: true; the input reads as it did. -/
def equatingExactSpec : ChangeSpec := { name := "equatingExact", fn := fun _ => fun
  | [d1, d2, d3, d4, d5, d6] => { results := [.lit (.bool true)], args := [d1, d2, d3, d4, d5, d6] }
  | _ => none }
def equatingExactRow : OpenClaim := { program := "ytbhkcgaanaelfaagreat", sum := "f18367cbc0d0b1b3b853b55ddb8ce38b87c78745aa841a7b880cfb783bce8c97", func := "awardingbody/awardingbodylaw34.EquatingExact", spec := "equatingExact", inPlace := ["math/bits.Add64", "math/bits.Sub64"], unfollowed := true, recurses := true, named := ["math/bits.divideError", "math/bits.overflowError"], apart := false }
def EquatingExactSaid : Prop := equatingExactRow.holds Tryz.pinned (OpenSpec.ofChange equatingExactSpec)

/-- ITS FALSE NEIGHBOUR: 'it returns false'. Refute it at one input. -/
def equatingExactWrong : ChangeSpec := { name := "equatingExact", fn := fun _ => fun
  | [d1, d2, d3, d4, d5, d6] => { results := [.lit (.bool false)], args := [d1, d2, d3, d4, d5, d6] }
  | _ => none }
def EquatingExactWrongFalsely : Prop := equatingExactRow.holds Tryz.pinned (OpenSpec.ofChange equatingExactWrong)

/- THE SECOND FORM. 'bulk': how many values and letters a reading holds, each counted each time it is reached (what is shared counts as often as it is met; a slice's spare places count too). A statement '..UptoSaid' is the law's where the arguments, and the package variables that the reading takes, are together of bulk at most 1048576: NARROWER than '..Said'. Prove '..Said' where nothing that the law and all that it calls make is longer than what came in: it says more and counts as full. Else prove '..UptoSaid'. A law counts once. -/
mutual
def uptoBulk {H : Type} : DataW H → Nat
  | .lit (.string bytes) => bytes.length + 1
  | .lit _ => 1
  | .nil => 1
  | .ptr d => uptoBulk d + 1
  | .slice elems spare => uptoBulkAll elems + uptoBulkAll spare + 1
  | .agg parts => uptoBulkAll parts + 1
  | .iface _ d => uptoBulk d + 1
  | .map entries => uptoBulkEntries entries + 1
  | .held _ => 1
def uptoBulkAll {H : Type} : List (DataW H) → Nat
  | [] => 0
  | d :: r => uptoBulk d + uptoBulkAll r
def uptoBulkEntries {H : Type} : List (Lit × DataW H) → Nat
  | [] => 0
  | x :: r => uptoBulkEntry x + uptoBulkEntries r
def uptoBulkEntry {H : Type} : Lit × DataW H → Nat
  | (.string bytes, d) => bytes.length + uptoBulk d + 1
  | (_, d) => uptoBulk d + 1
 end
def uptoSmall : (H : Type) → List (DataW H) → Bool := fun _ ds => decide (uptoBulkAll ds ≤ 1048576)
def OpenSpec.upto (s : _root_.Go.ChangeSpec) : _root_.Go.OpenSpec := { _root_.Go.OpenSpec.ofChange s with cond := some uptoSmall }

/-- 'awardingbodylaw33.ConversionExact', WHERE WHAT IT READS IS OF BULK AT MOST 1048576: true; the input reads as it did. -/
def conversionExactUptoRow : OpenClaim := { program := "ytbhkcgaanaelfaagreat", sum := "f18367cbc0d0b1b3b853b55ddb8ce38b87c78745aa841a7b880cfb783bce8c97", func := "awardingbody/awardingbodylaw33.ConversionExact", spec := "conversionExact", inPlace := ["math/bits.Add64", "math/bits.Sub64"], unfollowed := true, recurses := true, named := ["math/bits.divideError", "math/bits.overflowError"], apart := false, narrowed := true }
def ConversionExactUptoSaid : Prop := conversionExactUptoRow.holds Tryz.pinned (OpenSpec.upto conversionExactSpec)

/-- 'awardingbodylaw34.EquatingChains', WHERE WHAT IT READS IS OF BULK AT MOST 1048576: true; the input reads as it did. -/
def equatingChainsUptoRow : OpenClaim := { program := "ytbhkcgaanaelfaagreat", sum := "f18367cbc0d0b1b3b853b55ddb8ce38b87c78745aa841a7b880cfb783bce8c97", func := "awardingbody/awardingbodylaw34.EquatingChains", spec := "equatingChains", inPlace := ["math/bits.Add64", "math/bits.Sub64"], unfollowed := true, recurses := true, named := ["math/bits.divideError", "math/bits.overflowError"], apart := false, narrowed := true }
def EquatingChainsUptoSaid : Prop := equatingChainsUptoRow.holds Tryz.pinned (OpenSpec.upto equatingChainsSpec)

/-- 'awardingbodylaw34.EquatingExact', WHERE WHAT IT READS IS OF BULK AT MOST 1048576: true; the input reads as it did. -/
def equatingExactUptoRow : OpenClaim := { program := "ytbhkcgaanaelfaagreat", sum := "f18367cbc0d0b1b3b853b55ddb8ce38b87c78745aa841a7b880cfb783bce8c97", func := "awardingbody/awardingbodylaw34.EquatingExact", spec := "equatingExact", inPlace := ["math/bits.Add64", "math/bits.Sub64"], unfollowed := true, recurses := true, named := ["math/bits.divideError", "math/bits.overflowError"], apart := false, narrowed := true }
def EquatingExactUptoSaid : Prop := equatingExactUptoRow.holds Tryz.pinned (OpenSpec.upto equatingExactSpec)

end Rows
end Go.Proofs.YtbhkcgaanaelfaaGreat
