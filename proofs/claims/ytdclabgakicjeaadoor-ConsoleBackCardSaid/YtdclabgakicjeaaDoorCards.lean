/-
  DERIVED. GIVEN WITH THE SEED: THE CARDS: each row of YtdclabgakicjeaaDoorRows.lean that lists a variable, with what it lists TIED to the program's text (the seventh form; the later family's looks); each row that meets fmt, with fmt's text TOLD by the authors' own Lean function (tested against real Go, not proved from fmt's source: count such statements apart). THE CARD IS WHAT COUNTS. Prove the row's statement (the work); the ties are given (YtdclabgakicjeaaDoorTie.lean); close each card by the builder's one call (the guide's Derived/Test/ToyasCard.lean, 'card_holds'). Laid BY PROGRAM, IN A SANDBOX (cutbox-door.mjs). By AI agents, Wed Nov 11 2026. No macro, syntax, notation, axiom, sorry.
-/
import Derived.Test.YtdclabgakicjeaaDoorRows
import GoSem.ClaimSeven
namespace Go.Proofs.YtdclabgakicjeaaDoor
namespace Rows

/-- THE TIED CARD OF 'awardingbodylaw45.ConsoleBack'. -/
def consoleBackCard : Claim7 := { stood := { row := consoleBackRow, standIns := [], harness := (true, "f4305f4c13fe926aebe56b0db266202be882187ea10ba642d1c0c2deccc9f671"), looks := false }, kinds := [], alts := [], laidByText := true, laidKinds := [.data, .data, .data, .data, .data, .pinned], laidTests := true, laidLooks := .later }
def ConsoleBackCardSaid : Prop := Claim7.holds Tryd.pinned (.plain (OpenSpec.ofChange consoleBackSpec)) consoleBackCard

/-- THE SECOND FORM's CARD OF 'awardingbodylaw45.ConsoleBack'. -/
def consoleBackUptoCard : Claim7 := { stood := { row := consoleBackUptoRow, standIns := [], harness := (true, "f4305f4c13fe926aebe56b0db266202be882187ea10ba642d1c0c2deccc9f671"), looks := false }, kinds := [], alts := [], laidByText := true, laidKinds := [.data, .data, .data, .data, .data, .pinned], laidTests := true, laidLooks := .later }
def ConsoleBackUptoCardSaid : Prop := Claim7.holds Tryd.pinned (.plain (OpenSpec.upto consoleBackSpec)) consoleBackUptoCard
end Rows
end Go.Proofs.YtdclabgakicjeaaDoor
